/- IsaHalf: part 3 of the proof that, whatever the input, the law returns true and the input reads as it did; its conditions are those of the given row. -/
import Derived.Test.YticofbaajdgabaaDoorZIsaHalf2
import Derived.Test.YticofbaajdgabaaDoorFl
import Derived.Tactics
import Derived.WalkLawsBesides
import Derived.RowKit3
import Derived.Laws.BitsLemmas
import Derived.Test.YticofbaajdgabaaDoorSh
import Derived.Test.YticofbaajdgabaaDoorRows
import Derived.LaidMore
import Derived.MakeChecks
import Derived.WalkKit
import Derived.Deep.LoopGhost
import Derived.Lib.Walk
import Derived.Lib.SliceRun
import Derived.Test.YticofbaajdgabaaDoorTie
import Derived.Test.YticofbaajdgabaaDoorCards
import Derived.ProofKit
import Derived.OpenShut
import Derived.Stop.Joined
import Derived.Lay
import Derived.SevenTiedAt
set_option linter.unusedVariables false
set_option linter.unusedSimpArgs false
namespace Go.Ab
open Go.Proofs
def w2_IsaKnown_t (P : Program) (call : CallF) (c_w2_known : Option Bool) (c_w2_within : Int → Int → Option Int) (c_isa_Encode : T_api_Inst → Option ((List Int) × Bool)) (a0 : Int) : Tr Bool (AV × Heap) := (.call (call 14 [] []) (c_w2_known) w2_known_e fun (r1 : Bool) => (.as (!r1) (rt w2_IsaKnown_e false) (.rows [[.sc (.int .i64 (3 : Int))], [.sc (.int .i64 (4 : Int))]] (R_i64 [(3 : Int), (4 : Int)]) (.rows [[.sc (.int .i64 (24 : Int))], [.sc (.int .i64 (31 : Int))]] (R_i64 [(24 : Int), (31 : Int)]) (.rows [[.sc (.int .i64 (5 : Int))], [.sc (.int .i64 (32 : Int))]] (R_i64 [(5 : Int), (32 : Int)]) (.rows [[.sc (.int .i64 (7 : Int))], [.sc (.int .i64 (127 : Int))]] (R_i64 [(7 : Int), (127 : Int)]) (.rows [[.sc (.int .i64 (3 : Int))], [.sc (.int .i64 (60 : Int))], [.sc (.int .i64 (1 : Int))]] (R_i64 [(3 : Int), (60 : Int), (1 : Int)]) (.rows [[.sc (.int .i64 (1 : Int))], [.sc (.int .i64 (2 : Int))], [.sc (.int .i64 (-2 : Int))]] (R_i64 [(1 : Int), (2 : Int), (-2 : Int)]) (.rows [[.sc (.int .i64 (-256 : Int))]] (R_i64 [(-256 : Int)]) (.rows [[.sc (.int .i64 (254 : Int))]] (R_i64 [(254 : Int)]) (.rows [[.sc (.int .i64 (3 : Int))], [.sc (.int .i64 (4 : Int))], [.sc (.int .i64 (-1 : Int))]] (R_i64 [(3 : Int), (4 : Int), (-1 : Int)]) (.rows [[.sc (.int .i64 (31 : Int))], [.sc (.int .i64 (0 : Int))], [.sc (.int .i64 (256 : Int))]] (R_i64 [(31 : Int), (0 : Int), (256 : Int)]) (.rows [[.sc (.int .i64 (3 : Int))], [.sc (.int .i64 (-1 : Int))]] (R_i64 [(3 : Int), (-1 : Int)]) (.rows [[.sc (.int .i64 (31 : Int))], [.sc (.int .i64 (2049 : Int))]] (R_i64 [(31 : Int), (2049 : Int)]) (.rows [[.sc (.int .i64 (1 : Int))], [.sc (.int .i64 (-4 : Int))], [.sc (.int .i64 (2 : Int))]] (R_i64 [(1 : Int), (-4 : Int), (2 : Int)]) (.rows [[.sc (.int .i64 (-2 : Int))]] (R_i64 [(-2 : Int)]) (.rows [[.sc (.int .i64 (4 : Int))]] (R_i64 [(4 : Int)]) (.rows [[.sc (.int .i64 (2 : Int))], [.sc (.int .i64 (5 : Int))], [.sc (.int .i64 (-32768 : Int))]] (R_i64 [(2 : Int), (5 : Int), (-32768 : Int)]) (.rows [[.sc (.int .i64 (1 : Int))], [.sc (.int .i64 (2 : Int))], [.sc (.int .i64 (3 : Int))]] (R_i64 [(1 : Int), (2 : Int), (3 : Int)]) (.rows [[.sc (.int .i64 (1 : Int))], [.sc (.int .i64 (2 : Int))], [.sc (.int .i64 (3 : Int))]] (R_i64 [(1 : Int), (2 : Int), (3 : Int)]) (.rows [[.sc (.int .i64 (0 : Int)), .sl (R_i64 ([] : List Int))], [.sc (.int .i64 (15 : Int)), .sl (R_i64 [(3 : Int), (4 : Int)])], [.sc (.int .i64 (16 : Int)), .sl (R_i64 [(24 : Int), (31 : Int)])], [.sc (.int .i64 (21 : Int)), .sl (R_i64 [(5 : Int), (32 : Int)])], [.sc (.int .i64 (28 : Int)), .sl (R_i64 [(7 : Int), (127 : Int)])], [.sc (.int .i64 (38 : Int)), .sl (R_i64 [(3 : Int), (60 : Int), (1 : Int)])], [.sc (.int .i64 (40 : Int)), .sl (R_i64 [(1 : Int), (2 : Int), (-2 : Int)])], [.sc (.int .i64 (41 : Int)), .sl (R_i64 [(-256 : Int)])], [.sc (.int .i64 (42 : Int)), .sl (R_i64 [(254 : Int)])], [.sc (.int .i64 (43 : Int)), .sl (R_i64 [(3 : Int), (4 : Int), (-1 : Int)])], [.sc (.int .i64 (44 : Int)), .sl (R_i64 [(31 : Int), (0 : Int), (256 : Int)])], [.sc (.int .i64 (48 : Int)), .sl (R_i64 [(3 : Int), (-1 : Int)])], [.sc (.int .i64 (48 : Int)), .sl (R_i64 [(31 : Int), (2049 : Int)])], [.sc (.int .i64 (52 : Int)), .sl (R_i64 [(1 : Int), (-4 : Int), (2 : Int)])], [.sc (.int .i64 (56 : Int)), .sl (R_i64 [(-2 : Int)])], [.sc (.int .i64 (57 : Int)), .sl (R_i64 [(4 : Int)])], [.sc (.int .i64 (58 : Int)), .sl (R_i64 [(2 : Int), (5 : Int), (-32768 : Int)])], [.sc (.int .i64 (60 : Int)), .sl (R_i64 [(1 : Int), (2 : Int), (3 : Int)])], [.sc (.int .i64 (63 : Int)), .sl (R_i64 [(1 : Int), (2 : Int), (3 : Int)])]] (R_api_Inst [(T_api_Inst.mk (0 : Int) ([] : List Int)), (T_api_Inst.mk (15 : Int) [(3 : Int), (4 : Int)]), (T_api_Inst.mk (16 : Int) [(24 : Int), (31 : Int)]), (T_api_Inst.mk (21 : Int) [(5 : Int), (32 : Int)]), (T_api_Inst.mk (28 : Int) [(7 : Int), (127 : Int)]), (T_api_Inst.mk (38 : Int) [(3 : Int), (60 : Int), (1 : Int)]), (T_api_Inst.mk (40 : Int) [(1 : Int), (2 : Int), (-2 : Int)]), (T_api_Inst.mk (41 : Int) [(-256 : Int)]), (T_api_Inst.mk (42 : Int) [(254 : Int)]), (T_api_Inst.mk (43 : Int) [(3 : Int), (4 : Int), (-1 : Int)]), (T_api_Inst.mk (44 : Int) [(31 : Int), (0 : Int), (256 : Int)]), (T_api_Inst.mk (48 : Int) [(3 : Int), (-1 : Int)]), (T_api_Inst.mk (48 : Int) [(31 : Int), (2049 : Int)]), (T_api_Inst.mk (52 : Int) [(1 : Int), (-4 : Int), (2 : Int)]), (T_api_Inst.mk (56 : Int) [(-2 : Int)]), (T_api_Inst.mk (57 : Int) [(4 : Int)]), (T_api_Inst.mk (58 : Int) [(2 : Int), (5 : Int), (-32768 : Int)]), (T_api_Inst.mk (60 : Int) [(1 : Int), (2 : Int), (3 : Int)]), (T_api_Inst.mk (63 : Int) [(1 : Int), (2 : Int), (3 : Int)])]) (.rows [[.sc (.int .u8 (0 : Int))], [.sc (.int .u8 (0 : Int))]] (R_u8 [(0 : Int), (0 : Int)]) (.rows [[.sc (.int .u8 (1 : Int))], [.sc (.int .u8 (67 : Int))]] (R_u8 [(1 : Int), (67 : Int)]) (.rows [[.sc (.int .u8 (4 : Int))], [.sc (.int .u8 (248 : Int))]] (R_u8 [(4 : Int), (248 : Int)]) (.rows [[.sc (.int .u8 (33 : Int))], [.sc (.int .u8 (245 : Int))]] (R_u8 [(33 : Int), (245 : Int)]) (.rows [[.sc (.int .u8 (79 : Int))], [.sc (.int .u8 (247 : Int))]] (R_u8 [(79 : Int), (247 : Int)]) (.rows [[.sc (.int .u8 (207 : Int))], [.sc (.int .u8 (49 : Int))]] (R_u8 [(207 : Int), (49 : Int)]) (.rows [[.sc (.int .u8 (230 : Int))], [.sc (.int .u8 (255 : Int))]] (R_u8 [(230 : Int), (255 : Int)]) (.rows [[.sc (.int .u8 (232 : Int))], [.sc (.int .u8 (128 : Int))]] (R_u8 [(232 : Int), (128 : Int)]) (.rows [[.sc (.int .u8 (233 : Int))], [.sc (.int .u8 (127 : Int))]] (R_u8 [(233 : Int), (127 : Int)]) (.rows [[.sc (.int .u8 (28 : Int))], [.sc (.int .u8 (100 : Int))], [.sc (.int .u8 (255 : Int))], [.sc (.int .u8 (255 : Int))]] (R_u8 [(28 : Int), (100 : Int), (255 : Int), (255 : Int)]) (.rows [[.sc (.int .u8 (27 : Int))], [.sc (.int .u8 (224 : Int))], [.sc (.int .u8 (129 : Int))], [.sc (.int .u8 (1 : Int))]] (R_u8 [(27 : Int), (224 : Int), (129 : Int), (1 : Int)]) (.rows [[.sc (.int .u8 (112 : Int))], [.sc (.int .u8 (127 : Int))], [.sc (.int .u8 (127 : Int))], [.sc (.int .u8 (255 : Int))]] (R_u8 [(112 : Int), (127 : Int), (127 : Int), (255 : Int)]) (.rows [[.sc (.int .u8 (115 : Int))], [.sc (.int .u8 (225 : Int))], [.sc (.int .u8 (0 : Int))], [.sc (.int .u8 (1 : Int))]] (R_u8 [(115 : Int), (225 : Int), (0 : Int), (1 : Int)]) (.rows [[.sc (.int .u8 (80 : Int))], [.sc (.int .u8 (34 : Int))], [.sc (.int .u8 (255 : Int))], [.sc (.int .u8 (252 : Int))]] (R_u8 [(80 : Int), (34 : Int), (255 : Int), (252 : Int)]) (.rows [[.sc (.int .u8 (121 : Int))], [.sc (.int .u8 (255 : Int))], [.sc (.int .u8 (255 : Int))], [.sc (.int .u8 (254 : Int))]] (R_u8 [(121 : Int), (255 : Int), (255 : Int), (254 : Int)]) (.rows [[.sc (.int .u8 (120 : Int))], [.sc (.int .u8 (0 : Int))], [.sc (.int .u8 (0 : Int))], [.sc (.int .u8 (5 : Int))]] (R_u8 [(120 : Int), (0 : Int), (0 : Int), (5 : Int)]) (.rows [[.sc (.int .u8 (122 : Int))], [.sc (.int .u8 (37 : Int))], [.sc (.int .u8 (128 : Int))], [.sc (.int .u8 (0 : Int))]] (R_u8 [(122 : Int), (37 : Int), (128 : Int), (0 : Int)]) (.rows [[.sc (.int .u8 (124 : Int))], [.sc (.int .u8 (34 : Int))], [.sc (.int .u8 (26 : Int))], [.sc (.int .u8 (20 : Int))]] (R_u8 [(124 : Int), (34 : Int), (26 : Int), (20 : Int)]) (.rows [[.sc (.int .u8 (124 : Int))], [.sc (.int .u8 (65 : Int))], [.sc (.int .u8 (24 : Int))], [.sc (.int .u8 (56 : Int))]] (R_u8 [(124 : Int), (65 : Int), (24 : Int), (56 : Int)]) (.rows [[.sl (R_u8 [(0 : Int), (0 : Int)])], [.sl (R_u8 [(1 : Int), (67 : Int)])], [.sl (R_u8 [(4 : Int), (248 : Int)])], [.sl (R_u8 [(33 : Int), (245 : Int)])], [.sl (R_u8 [(79 : Int), (247 : Int)])], [.sl (R_u8 [(207 : Int), (49 : Int)])], [.sl (R_u8 [(230 : Int), (255 : Int)])], [.sl (R_u8 [(232 : Int), (128 : Int)])], [.sl (R_u8 [(233 : Int), (127 : Int)])], [.sl (R_u8 [(28 : Int), (100 : Int), (255 : Int), (255 : Int)])], [.sl (R_u8 [(27 : Int), (224 : Int), (129 : Int), (1 : Int)])], [.sl (R_u8 [(112 : Int), (127 : Int), (127 : Int), (255 : Int)])], [.sl (R_u8 [(115 : Int), (225 : Int), (0 : Int), (1 : Int)])], [.sl (R_u8 [(80 : Int), (34 : Int), (255 : Int), (252 : Int)])], [.sl (R_u8 [(121 : Int), (255 : Int), (255 : Int), (254 : Int)])], [.sl (R_u8 [(120 : Int), (0 : Int), (0 : Int), (5 : Int)])], [.sl (R_u8 [(122 : Int), (37 : Int), (128 : Int), (0 : Int)])], [.sl (R_u8 [(124 : Int), (34 : Int), (26 : Int), (20 : Int)])], [.sl (R_u8 [(124 : Int), (65 : Int), (24 : Int), (56 : Int)])]] (R_Lu8 [[(0 : Int), (0 : Int)], [(1 : Int), (67 : Int)], [(4 : Int), (248 : Int)], [(33 : Int), (245 : Int)], [(79 : Int), (247 : Int)], [(207 : Int), (49 : Int)], [(230 : Int), (255 : Int)], [(232 : Int), (128 : Int)], [(233 : Int), (127 : Int)], [(28 : Int), (100 : Int), (255 : Int), (255 : Int)], [(27 : Int), (224 : Int), (129 : Int), (1 : Int)], [(112 : Int), (127 : Int), (127 : Int), (255 : Int)], [(115 : Int), (225 : Int), (0 : Int), (1 : Int)], [(80 : Int), (34 : Int), (255 : Int), (252 : Int)], [(121 : Int), (255 : Int), (255 : Int), (254 : Int)], [(120 : Int), (0 : Int), (0 : Int), (5 : Int)], [(122 : Int), (37 : Int), (128 : Int), (0 : Int)], [(124 : Int), (34 : Int), (26 : Int), (20 : Int)], [(124 : Int), (65 : Int), (24 : Int), (56 : Int)]]) (.num ((R_api_Inst [(T_api_Inst.mk (0 : Int) ([] : List Int)), (T_api_Inst.mk (15 : Int) [(3 : Int), (4 : Int)]), (T_api_Inst.mk (16 : Int) [(24 : Int), (31 : Int)]), (T_api_Inst.mk (21 : Int) [(5 : Int), (32 : Int)]), (T_api_Inst.mk (28 : Int) [(7 : Int), (127 : Int)]), (T_api_Inst.mk (38 : Int) [(3 : Int), (60 : Int), (1 : Int)]), (T_api_Inst.mk (40 : Int) [(1 : Int), (2 : Int), (-2 : Int)]), (T_api_Inst.mk (41 : Int) [(-256 : Int)]), (T_api_Inst.mk (42 : Int) [(254 : Int)]), (T_api_Inst.mk (43 : Int) [(3 : Int), (4 : Int), (-1 : Int)]), (T_api_Inst.mk (44 : Int) [(31 : Int), (0 : Int), (256 : Int)]), (T_api_Inst.mk (48 : Int) [(3 : Int), (-1 : Int)]), (T_api_Inst.mk (48 : Int) [(31 : Int), (2049 : Int)]), (T_api_Inst.mk (52 : Int) [(1 : Int), (-4 : Int), (2 : Int)]), (T_api_Inst.mk (56 : Int) [(-2 : Int)]), (T_api_Inst.mk (57 : Int) [(4 : Int)]), (T_api_Inst.mk (58 : Int) [(2 : Int), (5 : Int), (-32768 : Int)]), (T_api_Inst.mk (60 : Int) [(1 : Int), (2 : Int), (3 : Int)]), (T_api_Inst.mk (63 : Int) [(1 : Int), (2 : Int), (3 : Int)])]).length) ([(T_api_Inst.mk (0 : Int) ([] : List Int)), (T_api_Inst.mk (15 : Int) [(3 : Int), (4 : Int)]), (T_api_Inst.mk (16 : Int) [(24 : Int), (31 : Int)]), (T_api_Inst.mk (21 : Int) [(5 : Int), (32 : Int)]), (T_api_Inst.mk (28 : Int) [(7 : Int), (127 : Int)]), (T_api_Inst.mk (38 : Int) [(3 : Int), (60 : Int), (1 : Int)]), (T_api_Inst.mk (40 : Int) [(1 : Int), (2 : Int), (-2 : Int)]), (T_api_Inst.mk (41 : Int) [(-256 : Int)]), (T_api_Inst.mk (42 : Int) [(254 : Int)]), (T_api_Inst.mk (43 : Int) [(3 : Int), (4 : Int), (-1 : Int)]), (T_api_Inst.mk (44 : Int) [(31 : Int), (0 : Int), (256 : Int)]), (T_api_Inst.mk (48 : Int) [(3 : Int), (-1 : Int)]), (T_api_Inst.mk (48 : Int) [(31 : Int), (2049 : Int)]), (T_api_Inst.mk (52 : Int) [(1 : Int), (-4 : Int), (2 : Int)]), (T_api_Inst.mk (56 : Int) [(-2 : Int)]), (T_api_Inst.mk (57 : Int) [(4 : Int)]), (T_api_Inst.mk (58 : Int) [(2 : Int), (5 : Int), (-32768 : Int)]), (T_api_Inst.mk (60 : Int) [(1 : Int), (2 : Int), (3 : Int)]), (T_api_Inst.mk (63 : Int) [(1 : Int), (2 : Int), (3 : Int)])].length) (.call (call 17 [.sc (.int .i64 a0), .sc (.int .i64 ((([(T_api_Inst.mk (0 : Int) ([] : List Int)), (T_api_Inst.mk (15 : Int) [(3 : Int), (4 : Int)]), (T_api_Inst.mk (16 : Int) [(24 : Int), (31 : Int)]), (T_api_Inst.mk (21 : Int) [(5 : Int), (32 : Int)]), (T_api_Inst.mk (28 : Int) [(7 : Int), (127 : Int)]), (T_api_Inst.mk (38 : Int) [(3 : Int), (60 : Int), (1 : Int)]), (T_api_Inst.mk (40 : Int) [(1 : Int), (2 : Int), (-2 : Int)]), (T_api_Inst.mk (41 : Int) [(-256 : Int)]), (T_api_Inst.mk (42 : Int) [(254 : Int)]), (T_api_Inst.mk (43 : Int) [(3 : Int), (4 : Int), (-1 : Int)]), (T_api_Inst.mk (44 : Int) [(31 : Int), (0 : Int), (256 : Int)]), (T_api_Inst.mk (48 : Int) [(3 : Int), (-1 : Int)]), (T_api_Inst.mk (48 : Int) [(31 : Int), (2049 : Int)]), (T_api_Inst.mk (52 : Int) [(1 : Int), (-4 : Int), (2 : Int)]), (T_api_Inst.mk (56 : Int) [(-2 : Int)]), (T_api_Inst.mk (57 : Int) [(4 : Int)]), (T_api_Inst.mk (58 : Int) [(2 : Int), (5 : Int), (-32768 : Int)]), (T_api_Inst.mk (60 : Int) [(1 : Int), (2 : Int), (3 : Int)]), (T_api_Inst.mk (63 : Int) [(1 : Int), (2 : Int), (3 : Int)])].length) : Nat) : Int))] []) (c_w2_within a0 ((([(T_api_Inst.mk (0 : Int) ([] : List Int)), (T_api_Inst.mk (15 : Int) [(3 : Int), (4 : Int)]), (T_api_Inst.mk (16 : Int) [(24 : Int), (31 : Int)]), (T_api_Inst.mk (21 : Int) [(5 : Int), (32 : Int)]), (T_api_Inst.mk (28 : Int) [(7 : Int), (127 : Int)]), (T_api_Inst.mk (38 : Int) [(3 : Int), (60 : Int), (1 : Int)]), (T_api_Inst.mk (40 : Int) [(1 : Int), (2 : Int), (-2 : Int)]), (T_api_Inst.mk (41 : Int) [(-256 : Int)]), (T_api_Inst.mk (42 : Int) [(254 : Int)]), (T_api_Inst.mk (43 : Int) [(3 : Int), (4 : Int), (-1 : Int)]), (T_api_Inst.mk (44 : Int) [(31 : Int), (0 : Int), (256 : Int)]), (T_api_Inst.mk (48 : Int) [(3 : Int), (-1 : Int)]), (T_api_Inst.mk (48 : Int) [(31 : Int), (2049 : Int)]), (T_api_Inst.mk (52 : Int) [(1 : Int), (-4 : Int), (2 : Int)]), (T_api_Inst.mk (56 : Int) [(-2 : Int)]), (T_api_Inst.mk (57 : Int) [(4 : Int)]), (T_api_Inst.mk (58 : Int) [(2 : Int), (5 : Int), (-32768 : Int)]), (T_api_Inst.mk (60 : Int) [(1 : Int), (2 : Int), (3 : Int)]), (T_api_Inst.mk (63 : Int) [(1 : Int), (2 : Int), (3 : Int)])].length) : Nat) : Int)) w2_within_e fun (r2 : Int) => (.ask (decide (0 ≤ r2 ∧ r2 < (((R_api_Inst [(T_api_Inst.mk (0 : Int) ([] : List Int)), (T_api_Inst.mk (15 : Int) [(3 : Int), (4 : Int)]), (T_api_Inst.mk (16 : Int) [(24 : Int), (31 : Int)]), (T_api_Inst.mk (21 : Int) [(5 : Int), (32 : Int)]), (T_api_Inst.mk (28 : Int) [(7 : Int), (127 : Int)]), (T_api_Inst.mk (38 : Int) [(3 : Int), (60 : Int), (1 : Int)]), (T_api_Inst.mk (40 : Int) [(1 : Int), (2 : Int), (-2 : Int)]), (T_api_Inst.mk (41 : Int) [(-256 : Int)]), (T_api_Inst.mk (42 : Int) [(254 : Int)]), (T_api_Inst.mk (43 : Int) [(3 : Int), (4 : Int), (-1 : Int)]), (T_api_Inst.mk (44 : Int) [(31 : Int), (0 : Int), (256 : Int)]), (T_api_Inst.mk (48 : Int) [(3 : Int), (-1 : Int)]), (T_api_Inst.mk (48 : Int) [(31 : Int), (2049 : Int)]), (T_api_Inst.mk (52 : Int) [(1 : Int), (-4 : Int), (2 : Int)]), (T_api_Inst.mk (56 : Int) [(-2 : Int)]), (T_api_Inst.mk (57 : Int) [(4 : Int)]), (T_api_Inst.mk (58 : Int) [(2 : Int), (5 : Int), (-32768 : Int)]), (T_api_Inst.mk (60 : Int) [(1 : Int), (2 : Int), (3 : Int)]), (T_api_Inst.mk (63 : Int) [(1 : Int), (2 : Int), (3 : Int)])]).length : Nat) : Int))) (decide (0 ≤ r2 ∧ r2 < (([(T_api_Inst.mk (0 : Int) ([] : List Int)), (T_api_Inst.mk (15 : Int) [(3 : Int), (4 : Int)]), (T_api_Inst.mk (16 : Int) [(24 : Int), (31 : Int)]), (T_api_Inst.mk (21 : Int) [(5 : Int), (32 : Int)]), (T_api_Inst.mk (28 : Int) [(7 : Int), (127 : Int)]), (T_api_Inst.mk (38 : Int) [(3 : Int), (60 : Int), (1 : Int)]), (T_api_Inst.mk (40 : Int) [(1 : Int), (2 : Int), (-2 : Int)]), (T_api_Inst.mk (41 : Int) [(-256 : Int)]), (T_api_Inst.mk (42 : Int) [(254 : Int)]), (T_api_Inst.mk (43 : Int) [(3 : Int), (4 : Int), (-1 : Int)]), (T_api_Inst.mk (44 : Int) [(31 : Int), (0 : Int), (256 : Int)]), (T_api_Inst.mk (48 : Int) [(3 : Int), (-1 : Int)]), (T_api_Inst.mk (48 : Int) [(31 : Int), (2049 : Int)]), (T_api_Inst.mk (52 : Int) [(1 : Int), (-4 : Int), (2 : Int)]), (T_api_Inst.mk (56 : Int) [(-2 : Int)]), (T_api_Inst.mk (57 : Int) [(4 : Int)]), (T_api_Inst.mk (58 : Int) [(2 : Int), (5 : Int), (-32768 : Int)]), (T_api_Inst.mk (60 : Int) [(1 : Int), (2 : Int), (3 : Int)]), (T_api_Inst.mk (63 : Int) [(1 : Int), (2 : Int), (3 : Int)])].length : Nat) : Int))) (.row ((R_api_Inst [(T_api_Inst.mk (0 : Int) ([] : List Int)), (T_api_Inst.mk (15 : Int) [(3 : Int), (4 : Int)]), (T_api_Inst.mk (16 : Int) [(24 : Int), (31 : Int)]), (T_api_Inst.mk (21 : Int) [(5 : Int), (32 : Int)]), (T_api_Inst.mk (28 : Int) [(7 : Int), (127 : Int)]), (T_api_Inst.mk (38 : Int) [(3 : Int), (60 : Int), (1 : Int)]), (T_api_Inst.mk (40 : Int) [(1 : Int), (2 : Int), (-2 : Int)]), (T_api_Inst.mk (41 : Int) [(-256 : Int)]), (T_api_Inst.mk (42 : Int) [(254 : Int)]), (T_api_Inst.mk (43 : Int) [(3 : Int), (4 : Int), (-1 : Int)]), (T_api_Inst.mk (44 : Int) [(31 : Int), (0 : Int), (256 : Int)]), (T_api_Inst.mk (48 : Int) [(3 : Int), (-1 : Int)]), (T_api_Inst.mk (48 : Int) [(31 : Int), (2049 : Int)]), (T_api_Inst.mk (52 : Int) [(1 : Int), (-4 : Int), (2 : Int)]), (T_api_Inst.mk (56 : Int) [(-2 : Int)]), (T_api_Inst.mk (57 : Int) [(4 : Int)]), (T_api_Inst.mk (58 : Int) [(2 : Int), (5 : Int), (-32768 : Int)]), (T_api_Inst.mk (60 : Int) [(1 : Int), (2 : Int), (3 : Int)]), (T_api_Inst.mk (63 : Int) [(1 : Int), (2 : Int), (3 : Int)])])[(Int.toNat r2)]?) ([(T_api_Inst.mk (0 : Int) ([] : List Int)), (T_api_Inst.mk (15 : Int) [(3 : Int), (4 : Int)]), (T_api_Inst.mk (16 : Int) [(24 : Int), (31 : Int)]), (T_api_Inst.mk (21 : Int) [(5 : Int), (32 : Int)]), (T_api_Inst.mk (28 : Int) [(7 : Int), (127 : Int)]), (T_api_Inst.mk (38 : Int) [(3 : Int), (60 : Int), (1 : Int)]), (T_api_Inst.mk (40 : Int) [(1 : Int), (2 : Int), (-2 : Int)]), (T_api_Inst.mk (41 : Int) [(-256 : Int)]), (T_api_Inst.mk (42 : Int) [(254 : Int)]), (T_api_Inst.mk (43 : Int) [(3 : Int), (4 : Int), (-1 : Int)]), (T_api_Inst.mk (44 : Int) [(31 : Int), (0 : Int), (256 : Int)]), (T_api_Inst.mk (48 : Int) [(3 : Int), (-1 : Int)]), (T_api_Inst.mk (48 : Int) [(31 : Int), (2049 : Int)]), (T_api_Inst.mk (52 : Int) [(1 : Int), (-4 : Int), (2 : Int)]), (T_api_Inst.mk (56 : Int) [(-2 : Int)]), (T_api_Inst.mk (57 : Int) [(4 : Int)]), (T_api_Inst.mk (58 : Int) [(2 : Int), (5 : Int), (-32768 : Int)]), (T_api_Inst.mk (60 : Int) [(1 : Int), (2 : Int), (3 : Int)]), (T_api_Inst.mk (63 : Int) [(1 : Int), (2 : Int), (3 : Int)])][(Int.toNat r2)]?) C_api_Inst fun (e3 : T_api_Inst) => (.call (call 21 [.agg (C_api_Inst e3)] []) (c_isa_Encode e3) isa_Encode_e fun (r4 : ((List Int) × Bool)) => (.as r4.2 (.yes r4.2 (.byt (bytesOfRows (R_u8 r4.1)) (some (listB r4.1)) fun (e5 : List UInt8) => (yesN 3 r4.2 (.ask (decide (0 ≤ r2 ∧ r2 < (((R_Lu8 [[(0 : Int), (0 : Int)], [(1 : Int), (67 : Int)], [(4 : Int), (248 : Int)], [(33 : Int), (245 : Int)], [(79 : Int), (247 : Int)], [(207 : Int), (49 : Int)], [(230 : Int), (255 : Int)], [(232 : Int), (128 : Int)], [(233 : Int), (127 : Int)], [(28 : Int), (100 : Int), (255 : Int), (255 : Int)], [(27 : Int), (224 : Int), (129 : Int), (1 : Int)], [(112 : Int), (127 : Int), (127 : Int), (255 : Int)], [(115 : Int), (225 : Int), (0 : Int), (1 : Int)], [(80 : Int), (34 : Int), (255 : Int), (252 : Int)], [(121 : Int), (255 : Int), (255 : Int), (254 : Int)], [(120 : Int), (0 : Int), (0 : Int), (5 : Int)], [(122 : Int), (37 : Int), (128 : Int), (0 : Int)], [(124 : Int), (34 : Int), (26 : Int), (20 : Int)], [(124 : Int), (65 : Int), (24 : Int), (56 : Int)]]).length : Nat) : Int))) (decide (0 ≤ r2 ∧ r2 < (([[(0 : Int), (0 : Int)], [(1 : Int), (67 : Int)], [(4 : Int), (248 : Int)], [(33 : Int), (245 : Int)], [(79 : Int), (247 : Int)], [(207 : Int), (49 : Int)], [(230 : Int), (255 : Int)], [(232 : Int), (128 : Int)], [(233 : Int), (127 : Int)], [(28 : Int), (100 : Int), (255 : Int), (255 : Int)], [(27 : Int), (224 : Int), (129 : Int), (1 : Int)], [(112 : Int), (127 : Int), (127 : Int), (255 : Int)], [(115 : Int), (225 : Int), (0 : Int), (1 : Int)], [(80 : Int), (34 : Int), (255 : Int), (252 : Int)], [(121 : Int), (255 : Int), (255 : Int), (254 : Int)], [(120 : Int), (0 : Int), (0 : Int), (5 : Int)], [(122 : Int), (37 : Int), (128 : Int), (0 : Int)], [(124 : Int), (34 : Int), (26 : Int), (20 : Int)], [(124 : Int), (65 : Int), (24 : Int), (56 : Int)]].length : Nat) : Int))) (.yes r4.2 (.row ((R_Lu8 [[(0 : Int), (0 : Int)], [(1 : Int), (67 : Int)], [(4 : Int), (248 : Int)], [(33 : Int), (245 : Int)], [(79 : Int), (247 : Int)], [(207 : Int), (49 : Int)], [(230 : Int), (255 : Int)], [(232 : Int), (128 : Int)], [(233 : Int), (127 : Int)], [(28 : Int), (100 : Int), (255 : Int), (255 : Int)], [(27 : Int), (224 : Int), (129 : Int), (1 : Int)], [(112 : Int), (127 : Int), (127 : Int), (255 : Int)], [(115 : Int), (225 : Int), (0 : Int), (1 : Int)], [(80 : Int), (34 : Int), (255 : Int), (252 : Int)], [(121 : Int), (255 : Int), (255 : Int), (254 : Int)], [(120 : Int), (0 : Int), (0 : Int), (5 : Int)], [(122 : Int), (37 : Int), (128 : Int), (0 : Int)], [(124 : Int), (34 : Int), (26 : Int), (20 : Int)], [(124 : Int), (65 : Int), (24 : Int), (56 : Int)]])[(Int.toNat r2)]?) ([[(0 : Int), (0 : Int)], [(1 : Int), (67 : Int)], [(4 : Int), (248 : Int)], [(33 : Int), (245 : Int)], [(79 : Int), (247 : Int)], [(207 : Int), (49 : Int)], [(230 : Int), (255 : Int)], [(232 : Int), (128 : Int)], [(233 : Int), (127 : Int)], [(28 : Int), (100 : Int), (255 : Int), (255 : Int)], [(27 : Int), (224 : Int), (129 : Int), (1 : Int)], [(112 : Int), (127 : Int), (127 : Int), (255 : Int)], [(115 : Int), (225 : Int), (0 : Int), (1 : Int)], [(80 : Int), (34 : Int), (255 : Int), (252 : Int)], [(121 : Int), (255 : Int), (255 : Int), (254 : Int)], [(120 : Int), (0 : Int), (0 : Int), (5 : Int)], [(122 : Int), (37 : Int), (128 : Int), (0 : Int)], [(124 : Int), (34 : Int), (26 : Int), (20 : Int)], [(124 : Int), (65 : Int), (24 : Int), (56 : Int)]][(Int.toNat r2)]?) C_Lu8 fun (e6 : (List Int)) => (.yes r4.2 (.byt (bytesOfRows (R_u8 e6)) (some (listB e6)) fun (e7 : List UInt8) => (yesN 2 r4.2 (rt w2_IsaKnown_e (eqS (⟨e5.toArray⟩ : ByteArray) (⟨e7.toArray⟩ : ByteArray)))))))) .fail)))) (noN 8 r4.2 (rt w2_IsaKnown_e false))))) .fail))))))))))))))))))))))))))))))))))))))))))))
theorem w2_IsaKnown_d (P : Program) (call : CallF) (c_w2_known : Option Bool) (c_w2_within : Int → Int → Option Int) (c_isa_Encode : T_api_Inst → Option ((List Int) × Bool)) (a0 : Int) : (w2_IsaKnown_t P call c_w2_known c_w2_within c_isa_Encode a0).den = w2_IsaKnown_b c_w2_known c_w2_within c_isa_Encode a0 := rfl
theorem w2_IsaKnown_n (call : CallF) (c_w2_known : Option Bool) (c_w2_within : Int → Int → Option Int) (c_isa_Encode : T_api_Inst → Option ((List Int) × Bool)) (a0 : Int) : (w2_IsaKnown_t Tryd.prog call c_w2_known c_w2_within c_isa_Encode a0).norm (bodyT Tryd.prog call G 5 [.sc (.int .i64 a0)] []) = w2_IsaKnown_t Tryd.prog call c_w2_known c_w2_within c_isa_Encode a0 := by kernel_rfl
theorem w2_IsaKnown_k (P : Program) (call : CallF) (lp : Loops) (c_w2_known : Option Bool) (c_w2_within : Int → Int → Option Int) (c_isa_Encode : T_api_Inst → Option ((List Int) × Bool)) (hc_w2_known : ∀  (r : Bool), c_w2_known = some r → (call 14 [] []) = some (w2_known_e r)) (hc_w2_within : ∀ (a0 : Int) (a1 : Int) (r : Int), c_w2_within a0 a1 = some r → (call 17 [.sc (.int .i64 a0), .sc (.int .i64 a1)] []) = some (w2_within_e r)) (hc_isa_Encode : ∀ (a0 : T_api_Inst) (r : ((List Int) × Bool)), c_isa_Encode a0 = some r → (call 21 [.agg (C_api_Inst a0)] []) = some (isa_Encode_e r)) (a0 : Int) : (w2_IsaKnown_t P call c_w2_known c_w2_within c_isa_Encode a0).ok lp w2_IsaKnown_e := fun r1 hr1 => ⟨hc_w2_known _ hr1, ⟨rfl, fun h0 => rfl, fun h0 => ⟨(R_i64_map [(3 : Int), (4 : Int)]), ⟨(R_i64_map [(24 : Int), (31 : Int)]), ⟨(R_i64_map [(5 : Int), (32 : Int)]), ⟨(R_i64_map [(7 : Int), (127 : Int)]), ⟨(R_i64_map [(3 : Int), (60 : Int), (1 : Int)]), ⟨(R_i64_map [(1 : Int), (2 : Int), (-2 : Int)]), ⟨(R_i64_map [(-256 : Int)]), ⟨(R_i64_map [(254 : Int)]), ⟨(R_i64_map [(3 : Int), (4 : Int), (-1 : Int)]), ⟨(R_i64_map [(31 : Int), (0 : Int), (256 : Int)]), ⟨(R_i64_map [(3 : Int), (-1 : Int)]), ⟨(R_i64_map [(31 : Int), (2049 : Int)]), ⟨(R_i64_map [(1 : Int), (-4 : Int), (2 : Int)]), ⟨(R_i64_map [(-2 : Int)]), ⟨(R_i64_map [(4 : Int)]), ⟨(R_i64_map [(2 : Int), (5 : Int), (-32768 : Int)]), ⟨(R_i64_map [(1 : Int), (2 : Int), (3 : Int)]), ⟨(R_i64_map [(1 : Int), (2 : Int), (3 : Int)]), ⟨(R_api_Inst_map [(T_api_Inst.mk (0 : Int) ([] : List Int)), (T_api_Inst.mk (15 : Int) [(3 : Int), (4 : Int)]), (T_api_Inst.mk (16 : Int) [(24 : Int), (31 : Int)]), (T_api_Inst.mk (21 : Int) [(5 : Int), (32 : Int)]), (T_api_Inst.mk (28 : Int) [(7 : Int), (127 : Int)]), (T_api_Inst.mk (38 : Int) [(3 : Int), (60 : Int), (1 : Int)]), (T_api_Inst.mk (40 : Int) [(1 : Int), (2 : Int), (-2 : Int)]), (T_api_Inst.mk (41 : Int) [(-256 : Int)]), (T_api_Inst.mk (42 : Int) [(254 : Int)]), (T_api_Inst.mk (43 : Int) [(3 : Int), (4 : Int), (-1 : Int)]), (T_api_Inst.mk (44 : Int) [(31 : Int), (0 : Int), (256 : Int)]), (T_api_Inst.mk (48 : Int) [(3 : Int), (-1 : Int)]), (T_api_Inst.mk (48 : Int) [(31 : Int), (2049 : Int)]), (T_api_Inst.mk (52 : Int) [(1 : Int), (-4 : Int), (2 : Int)]), (T_api_Inst.mk (56 : Int) [(-2 : Int)]), (T_api_Inst.mk (57 : Int) [(4 : Int)]), (T_api_Inst.mk (58 : Int) [(2 : Int), (5 : Int), (-32768 : Int)]), (T_api_Inst.mk (60 : Int) [(1 : Int), (2 : Int), (3 : Int)]), (T_api_Inst.mk (63 : Int) [(1 : Int), (2 : Int), (3 : Int)])]), ⟨(R_u8_map [(0 : Int), (0 : Int)]), ⟨(R_u8_map [(1 : Int), (67 : Int)]), ⟨(R_u8_map [(4 : Int), (248 : Int)]), ⟨(R_u8_map [(33 : Int), (245 : Int)]), ⟨(R_u8_map [(79 : Int), (247 : Int)]), ⟨(R_u8_map [(207 : Int), (49 : Int)]), ⟨(R_u8_map [(230 : Int), (255 : Int)]), ⟨(R_u8_map [(232 : Int), (128 : Int)]), ⟨(R_u8_map [(233 : Int), (127 : Int)]), ⟨(R_u8_map [(28 : Int), (100 : Int), (255 : Int), (255 : Int)]), ⟨(R_u8_map [(27 : Int), (224 : Int), (129 : Int), (1 : Int)]), ⟨(R_u8_map [(112 : Int), (127 : Int), (127 : Int), (255 : Int)]), ⟨(R_u8_map [(115 : Int), (225 : Int), (0 : Int), (1 : Int)]), ⟨(R_u8_map [(80 : Int), (34 : Int), (255 : Int), (252 : Int)]), ⟨(R_u8_map [(121 : Int), (255 : Int), (255 : Int), (254 : Int)]), ⟨(R_u8_map [(120 : Int), (0 : Int), (0 : Int), (5 : Int)]), ⟨(R_u8_map [(122 : Int), (37 : Int), (128 : Int), (0 : Int)]), ⟨(R_u8_map [(124 : Int), (34 : Int), (26 : Int), (20 : Int)]), ⟨(R_u8_map [(124 : Int), (65 : Int), (24 : Int), (56 : Int)]), ⟨(R_Lu8_map [[(0 : Int), (0 : Int)], [(1 : Int), (67 : Int)], [(4 : Int), (248 : Int)], [(33 : Int), (245 : Int)], [(79 : Int), (247 : Int)], [(207 : Int), (49 : Int)], [(230 : Int), (255 : Int)], [(232 : Int), (128 : Int)], [(233 : Int), (127 : Int)], [(28 : Int), (100 : Int), (255 : Int), (255 : Int)], [(27 : Int), (224 : Int), (129 : Int), (1 : Int)], [(112 : Int), (127 : Int), (127 : Int), (255 : Int)], [(115 : Int), (225 : Int), (0 : Int), (1 : Int)], [(80 : Int), (34 : Int), (255 : Int), (252 : Int)], [(121 : Int), (255 : Int), (255 : Int), (254 : Int)], [(120 : Int), (0 : Int), (0 : Int), (5 : Int)], [(122 : Int), (37 : Int), (128 : Int), (0 : Int)], [(124 : Int), (34 : Int), (26 : Int), (20 : Int)], [(124 : Int), (65 : Int), (24 : Int), (56 : Int)]]), ⟨(R_api_Inst_len _), fun r2 hr2 => ⟨hc_w2_within _ _ _ hr2, ⟨(by rw [R_api_Inst_len]), fun h1 => fun e3 he3 => ⟨R_api_Inst_get he3, fun r4 hr4 => ⟨hc_isa_Encode _ _ hr4, ⟨rfl, fun h2 => ⟨h2, fun e5 he5 => ⟨(R_u8_list _).trans he5, yesN_ok 3 (h2) (⟨(by rw [R_Lu8_len]), fun h3 => ⟨h2, fun e6 he6 => ⟨R_Lu8_get he6, ⟨h2, fun e7 he7 => ⟨(R_u8_list _).trans he7, yesN_ok 2 (h2) (rfl)⟩⟩⟩⟩, fun h3 => trivial⟩)⟩⟩, fun h2 => noN_ok 8 (h2) (rfl)⟩⟩⟩, fun h1 => trivial⟩⟩⟩⟩⟩⟩⟩⟩⟩⟩⟩⟩⟩⟩⟩⟩⟩⟩⟩⟩⟩⟩⟩⟩⟩⟩⟩⟩⟩⟩⟩⟩⟩⟩⟩⟩⟩⟩⟩⟩⟩⟩⟩⟩
theorem w2_IsaKnown_m {c_w2_known d_w2_known : Option Bool} (h_w2_known : Le (c_w2_known ) (d_w2_known )) {c_w2_within d_w2_within : Int → Int → Option Int} (h_w2_within : ∀ (a0 : Int) (a1 : Int), Le (c_w2_within a0 a1) (d_w2_within a0 a1)) {c_isa_Encode d_isa_Encode : T_api_Inst → Option ((List Int) × Bool)} (h_isa_Encode : ∀ (a0 : T_api_Inst), Le (c_isa_Encode a0) (d_isa_Encode a0)) (a0 : Int) : Le (w2_IsaKnown_b c_w2_known c_w2_within c_isa_Encode a0) (w2_IsaKnown_b d_w2_known d_w2_within d_isa_Encode a0) := by
  unfold w2_IsaKnown_b
  exact .bind (h_w2_known) fun r1 => .cond (.refl _) (.bind (h_w2_within _ _) fun r2 => .cond (.bind (.refl ([(T_api_Inst.mk (0 : Int) ([] : List Int)), (T_api_Inst.mk (15 : Int) [(3 : Int), (4 : Int)]), (T_api_Inst.mk (16 : Int) [(24 : Int), (31 : Int)]), (T_api_Inst.mk (21 : Int) [(5 : Int), (32 : Int)]), (T_api_Inst.mk (28 : Int) [(7 : Int), (127 : Int)]), (T_api_Inst.mk (38 : Int) [(3 : Int), (60 : Int), (1 : Int)]), (T_api_Inst.mk (40 : Int) [(1 : Int), (2 : Int), (-2 : Int)]), (T_api_Inst.mk (41 : Int) [(-256 : Int)]), (T_api_Inst.mk (42 : Int) [(254 : Int)]), (T_api_Inst.mk (43 : Int) [(3 : Int), (4 : Int), (-1 : Int)]), (T_api_Inst.mk (44 : Int) [(31 : Int), (0 : Int), (256 : Int)]), (T_api_Inst.mk (48 : Int) [(3 : Int), (-1 : Int)]), (T_api_Inst.mk (48 : Int) [(31 : Int), (2049 : Int)]), (T_api_Inst.mk (52 : Int) [(1 : Int), (-4 : Int), (2 : Int)]), (T_api_Inst.mk (56 : Int) [(-2 : Int)]), (T_api_Inst.mk (57 : Int) [(4 : Int)]), (T_api_Inst.mk (58 : Int) [(2 : Int), (5 : Int), (-32768 : Int)]), (T_api_Inst.mk (60 : Int) [(1 : Int), (2 : Int), (3 : Int)]), (T_api_Inst.mk (63 : Int) [(1 : Int), (2 : Int), (3 : Int)])][(Int.toNat r2)]?)) fun e3 => .bind (h_isa_Encode _) fun r4 => .refl _) (.refl _))
theorem w2_IsaKnown_c {c_w2_known : Nat → Option Bool} {d_w2_known : Option Bool} (h_w2_known : Cv (fun k => c_w2_known k ) (d_w2_known )) {c_w2_within : Nat → Int → Int → Option Int} {d_w2_within : Int → Int → Option Int} (h_w2_within : ∀ (a0 : Int) (a1 : Int), Cv (fun k => c_w2_within k a0 a1) (d_w2_within a0 a1)) {c_isa_Encode : Nat → T_api_Inst → Option ((List Int) × Bool)} {d_isa_Encode : T_api_Inst → Option ((List Int) × Bool)} (h_isa_Encode : ∀ (a0 : T_api_Inst), Cv (fun k => c_isa_Encode k a0) (d_isa_Encode a0)) (a0 : Int) : Cv (fun k => w2_IsaKnown_b (c_w2_known k) (c_w2_within k) (c_isa_Encode k) a0) (w2_IsaKnown_b d_w2_known d_w2_within d_isa_Encode a0) := by
  unfold w2_IsaKnown_b
  exact .bind (h_w2_known) fun r1 => .cond (by exact .const _) (.bind (h_w2_within _ _) fun r2 => .cond (.bind (.const ([(T_api_Inst.mk (0 : Int) ([] : List Int)), (T_api_Inst.mk (15 : Int) [(3 : Int), (4 : Int)]), (T_api_Inst.mk (16 : Int) [(24 : Int), (31 : Int)]), (T_api_Inst.mk (21 : Int) [(5 : Int), (32 : Int)]), (T_api_Inst.mk (28 : Int) [(7 : Int), (127 : Int)]), (T_api_Inst.mk (38 : Int) [(3 : Int), (60 : Int), (1 : Int)]), (T_api_Inst.mk (40 : Int) [(1 : Int), (2 : Int), (-2 : Int)]), (T_api_Inst.mk (41 : Int) [(-256 : Int)]), (T_api_Inst.mk (42 : Int) [(254 : Int)]), (T_api_Inst.mk (43 : Int) [(3 : Int), (4 : Int), (-1 : Int)]), (T_api_Inst.mk (44 : Int) [(31 : Int), (0 : Int), (256 : Int)]), (T_api_Inst.mk (48 : Int) [(3 : Int), (-1 : Int)]), (T_api_Inst.mk (48 : Int) [(31 : Int), (2049 : Int)]), (T_api_Inst.mk (52 : Int) [(1 : Int), (-4 : Int), (2 : Int)]), (T_api_Inst.mk (56 : Int) [(-2 : Int)]), (T_api_Inst.mk (57 : Int) [(4 : Int)]), (T_api_Inst.mk (58 : Int) [(2 : Int), (5 : Int), (-32768 : Int)]), (T_api_Inst.mk (60 : Int) [(1 : Int), (2 : Int), (3 : Int)]), (T_api_Inst.mk (63 : Int) [(1 : Int), (2 : Int), (3 : Int)])][(Int.toNat r2)]?)) fun e3 => .bind (h_isa_Encode _) fun r4 => by exact .const _) (by exact .const _))
def w2_IsaKnown.s : Nat → Int → Option Bool
  | 0, _ => none
  | k + 1, a0 => w2_IsaKnown_b (w2_known.s k) (fun a0 a1 => w2_within.s k a0 a1) (fun a0 => isa_Encode.s k a0) a0
theorem w2_IsaKnown.ok : ∀ (k : Nat), ∀ (a0 : Int) (r : Bool), w2_IsaKnown.s k a0 = some r → evalFn Tryd.prog G k 5 [.sc (.int .i64 a0)] [] = some (w2_IsaKnown_e r)
  | 0, _, _, h => (nomatch h)
  | k + 1, a0, r, h => fn_ok rfl (w2_IsaKnown_t Tryd.prog (evalFn Tryd.prog G k) (w2_known.s k) (fun a0 a1 => w2_within.s k a0 a1) (fun a0 => isa_Encode.s k a0) a0) (w2_IsaKnown_n _ (w2_known.s k) (fun a0 a1 => w2_within.s k a0 a1) (fun a0 => isa_Encode.s k a0) a0) (w2_IsaKnown_k _ _ _ (w2_known.s k) (fun a0 a1 => w2_within.s k a0 a1) (fun a0 => isa_Encode.s k a0) (w2_known.ok k) (w2_within.ok k) (isa_Encode.ok k)  a0) ((w2_IsaKnown_d _ _ (w2_known.s k) (fun a0 a1 => w2_within.s k a0 a1) (fun a0 => isa_Encode.s k a0) a0).trans h)
theorem w2_IsaKnown.mono : ∀ (k : Nat) (a0 : Int), Le (w2_IsaKnown.s k a0) (w2_IsaKnown.s (k + 1) a0)
  | 0, _ => fun r h => (nomatch h)
  | k + 1, a0 => w2_IsaKnown_m (w2_known.mono k) (w2_within.mono k) (isa_Encode.mono k) a0
noncomputable def w2_IsaKnown (a0 : Int) : Option Bool := lim fun k => w2_IsaKnown.s k a0
theorem w2_IsaKnown.cv (a0 : Int) : Cv (fun k => w2_IsaKnown.s k a0) (w2_IsaKnown a0) := .lim fun k => w2_IsaKnown.mono k a0
theorem w2_IsaKnown.eq (a0 : Int) : w2_IsaKnown a0 = w2_IsaKnown_b w2_known w2_within isa_Encode a0 := Cv.uniq (w2_IsaKnown.cv a0).shift (w2_IsaKnown_c w2_known.cv w2_within.cv isa_Encode.cv a0)
theorem w2_IsaKnown.run (a0 : Int) {r : Bool} (h : w2_IsaKnown a0 = some r) : ∃ k, evalFn Tryd.prog G k 5 [.sc (.int .i64 a0)] [] = some (w2_IsaKnown_e r) :=
  let ⟨k, hk⟩ := ((w2_IsaKnown.cv a0).2 r).1 h
  ⟨k, w2_IsaKnown.ok k a0 r hk⟩
def w2_IsaHalf_e (r : Bool) : AV × Heap := (.sc (.bool r), [])
def w2_IsaHalf_b (c_w2_known : Option Bool) (c_isa_Decode : (List Int) → Option (T_api_Inst × Int × Bool)) (c_isa_Size : Int → Option Int) (a0 : Int) (a1 : Int) (a2 : Int) (a3 : Int) : Option Bool := ((c_w2_known).bind fun (r1 : Bool) => (bif (!r1) then (some false) else ((c_isa_Decode [a0, a1, a2, a3]).bind fun (r2 : (T_api_Inst × Int × Bool)) => (bif (decide (0 ≤ (0 : Int) ∧ (0 : Int) ≤ (2 : Int) ∧ (2 : Int) ≤ (([a0, a1, a2, a3].length : Nat) : Int))) then ((c_isa_Decode (([a0, a1, a2, a3].drop (Int.toNat (0 : Int))).take (Int.toNat ((2 : Int) - (0 : Int))))).bind fun (r3 : (T_api_Inst × Int × Bool)) => (bif ((shrI .u8 a0 (4 : Int)) == (1 : Int)) then (bif (!r2.2.2) then (bif (r2.2.1 == (0 : Int)) then (bif (!r3.2.2) then (bif (r2.1.Op == (0 : Int)) then (some ((((r2.1.F.length) : Nat) : Int) == (0 : Int))) else (some false)) else (some false)) else (some false)) else (bif ((r2.2.1 == (4 : Int)) == true) then (bif ((r2.2.1 == (2 : Int)) == false) then (bif (r3.2.2 == false) then ((c_isa_Size r2.1.Op).bind fun (r4 : Int) => (some (r4 == r2.2.1))) else (some false)) else (some false)) else (some false))) else (bif ((shrI .u8 a0 (4 : Int)) == (3 : Int)) then (bif (!r2.2.2) then (bif (r2.2.1 == (0 : Int)) then (bif (!r3.2.2) then (bif (r2.1.Op == (0 : Int)) then (some ((((r2.1.F.length) : Nat) : Int) == (0 : Int))) else (some false)) else (some false)) else (some false)) else (bif ((r2.2.1 == (4 : Int)) == true) then (bif ((r2.2.1 == (2 : Int)) == false) then (bif (r3.2.2 == false) then ((c_isa_Size r2.1.Op).bind fun (r5 : Int) => (some (r5 == r2.2.1))) else (some false)) else (some false)) else (some false))) else (bif ((shrI .u8 a0 (4 : Int)) == (5 : Int)) then (bif (!r2.2.2) then (bif (r2.2.1 == (0 : Int)) then (bif (!r3.2.2) then (bif (r2.1.Op == (0 : Int)) then (some ((((r2.1.F.length) : Nat) : Int) == (0 : Int))) else (some false)) else (some false)) else (some false)) else (bif ((r2.2.1 == (4 : Int)) == true) then (bif ((r2.2.1 == (2 : Int)) == false) then (bif (r3.2.2 == false) then ((c_isa_Size r2.1.Op).bind fun (r6 : Int) => (some (r6 == r2.2.1))) else (some false)) else (some false)) else (some false))) else (bif (!r2.2.2) then (bif (r2.2.1 == (0 : Int)) then (bif (!r3.2.2) then (bif (r2.1.Op == (0 : Int)) then (some ((((r2.1.F.length) : Nat) : Int) == (0 : Int))) else (some false)) else (some false)) else (some false)) else (bif ((r2.2.1 == (4 : Int)) == ((shrI .u8 a0 (4 : Int)) == (7 : Int))) then (bif ((r2.2.1 == (2 : Int)) == (!((shrI .u8 a0 (4 : Int)) == (7 : Int)))) then (bif (r3.2.2 == (!((shrI .u8 a0 (4 : Int)) == (7 : Int)))) then ((c_isa_Size r2.1.Op).bind fun (r7 : Int) => (some (r7 == r2.2.1))) else (some false)) else (some false)) else (some false))))))) else none))))
def w2_IsaHalf_t (P : Program) (call : CallF) (c_w2_known : Option Bool) (c_isa_Decode : (List Int) → Option (T_api_Inst × Int × Bool)) (c_isa_Size : Int → Option Int) (a0 : Int) (a1 : Int) (a2 : Int) (a3 : Int) : Tr Bool (AV × Heap) := (.call (call 14 [] []) (c_w2_known) w2_known_e fun (r1 : Bool) => (.as (!r1) (rt w2_IsaHalf_e false) (.rows [[.sc (.int .u8 a0)], [.sc (.int .u8 a1)], [.sc (.int .u8 a2)], [.sc (.int .u8 a3)]] (R_u8 [a0, a1, a2, a3]) (.call (call 18 [.sl (R_u8 [a0, a1, a2, a3])] []) (c_isa_Decode [a0, a1, a2, a3]) isa_Decode_e fun (r2 : (T_api_Inst × Int × Bool)) => (.yes (decide ((R_u8 [a0, a1, a2, a3]).all (fun r => r.length == 1) = true)) (.ask (decide (0 ≤ (0 : Int) ∧ (0 : Int) ≤ (2 : Int) ∧ (2 : Int) ≤ (((R_u8 [a0, a1, a2, a3]).length : Nat) : Int))) (decide (0 ≤ (0 : Int) ∧ (0 : Int) ≤ (2 : Int) ∧ (2 : Int) ≤ (([a0, a1, a2, a3].length : Nat) : Int))) (.rows (((R_u8 [a0, a1, a2, a3]).drop (Int.toNat (0 : Int))).take (Int.toNat ((2 : Int) - (0 : Int)))) (R_u8 (([a0, a1, a2, a3].drop (Int.toNat (0 : Int))).take (Int.toNat ((2 : Int) - (0 : Int))))) (.call (call 18 [.sl (R_u8 (([a0, a1, a2, a3].drop (Int.toNat (0 : Int))).take (Int.toNat ((2 : Int) - (0 : Int)))))] []) (c_isa_Decode (([a0, a1, a2, a3].drop (Int.toNat (0 : Int))).take (Int.toNat ((2 : Int) - (0 : Int))))) isa_Decode_e fun (r3 : (T_api_Inst × Int × Bool)) => (.yes (decide (0 ≤ (4 : Int))) (.as ((shrI .u8 a0 (4 : Int)) == (1 : Int)) (yesN 3 ((shrI .u8 a0 (4 : Int)) == (1 : Int)) (yesN 8 true (.as (!r2.2.2) (.as (r2.2.1 == (0 : Int)) (yesN 2 (r2.2.1 == (0 : Int)) (.as (!r3.2.2) (yesN 3 (!r3.2.2) (.as (r2.1.Op == (0 : Int)) (yesN 2 (r2.1.Op == (0 : Int)) (.num ((R_i64 r2.1.F).length) (r2.1.F.length) (yesN 2 (r2.1.Op == (0 : Int)) (rt w2_IsaHalf_e ((((r2.1.F.length) : Nat) : Int) == (0 : Int)))))) (noN 4 (r2.1.Op == (0 : Int)) (rt w2_IsaHalf_e false)))) (noN 3 (!r3.2.2) (noN 5 false (rt w2_IsaHalf_e false))))) (noN 2 (r2.2.1 == (0 : Int)) (noN 9 false (rt w2_IsaHalf_e false)))) (.as ((r2.2.1 == (4 : Int)) == true) (yesN 5 ((r2.2.1 == (4 : Int)) == true) (.as ((r2.2.1 == (2 : Int)) == false) (yesN 4 ((r2.2.1 == (2 : Int)) == false) (.as (r3.2.2 == false) (yesN 2 (r3.2.2 == false) (.call (call 22 [.sc (.int .i64 r2.1.Op)] []) (c_isa_Size r2.1.Op) isa_Size_e fun (r4 : Int) => (yesN 3 (r3.2.2 == false) (rt w2_IsaHalf_e (r4 == r2.2.1))))) (noN 5 (r3.2.2 == false) (rt w2_IsaHalf_e false)))) (noN 4 ((r2.2.1 == (2 : Int)) == false) (noN 6 false (rt w2_IsaHalf_e false))))) (noN 5 ((r2.2.1 == (4 : Int)) == true) (noN 11 false (rt w2_IsaHalf_e false))))))) (.no ((shrI .u8 a0 (4 : Int)) == (1 : Int)) (.yes (decide (0 ≤ (4 : Int))) (noN 2 ((shrI .u8 a0 (4 : Int)) == (1 : Int)) (.as ((shrI .u8 a0 (4 : Int)) == (3 : Int)) (yesN 3 ((shrI .u8 a0 (4 : Int)) == (3 : Int)) (yesN 4 true (.as (!r2.2.2) (.as (r2.2.1 == (0 : Int)) (yesN 2 (r2.2.1 == (0 : Int)) (.as (!r3.2.2) (yesN 3 (!r3.2.2) (.as (r2.1.Op == (0 : Int)) (yesN 2 (r2.1.Op == (0 : Int)) (.num ((R_i64 r2.1.F).length) (r2.1.F.length) (yesN 2 (r2.1.Op == (0 : Int)) (rt w2_IsaHalf_e ((((r2.1.F.length) : Nat) : Int) == (0 : Int)))))) (noN 4 (r2.1.Op == (0 : Int)) (rt w2_IsaHalf_e false)))) (noN 3 (!r3.2.2) (noN 5 false (rt w2_IsaHalf_e false))))) (noN 2 (r2.2.1 == (0 : Int)) (noN 9 false (rt w2_IsaHalf_e false)))) (.as ((r2.2.1 == (4 : Int)) == true) (yesN 5 ((r2.2.1 == (4 : Int)) == true) (.as ((r2.2.1 == (2 : Int)) == false) (yesN 4 ((r2.2.1 == (2 : Int)) == false) (.as (r3.2.2 == false) (yesN 2 (r3.2.2 == false) (.call (call 22 [.sc (.int .i64 r2.1.Op)] []) (c_isa_Size r2.1.Op) isa_Size_e fun (r5 : Int) => (yesN 3 (r3.2.2 == false) (rt w2_IsaHalf_e (r5 == r2.2.1))))) (noN 5 (r3.2.2 == false) (rt w2_IsaHalf_e false)))) (noN 4 ((r2.2.1 == (2 : Int)) == false) (noN 6 false (rt w2_IsaHalf_e false))))) (noN 5 ((r2.2.1 == (4 : Int)) == true) (noN 11 false (rt w2_IsaHalf_e false))))))) (.no ((shrI .u8 a0 (4 : Int)) == (3 : Int)) (.yes (decide (0 ≤ (4 : Int))) (noN 2 ((shrI .u8 a0 (4 : Int)) == (3 : Int)) (.as ((shrI .u8 a0 (4 : Int)) == (5 : Int)) (yesN 3 ((shrI .u8 a0 (4 : Int)) == (5 : Int)) (.as (!r2.2.2) (.as (r2.2.1 == (0 : Int)) (yesN 2 (r2.2.1 == (0 : Int)) (.as (!r3.2.2) (yesN 3 (!r3.2.2) (.as (r2.1.Op == (0 : Int)) (yesN 2 (r2.1.Op == (0 : Int)) (.num ((R_i64 r2.1.F).length) (r2.1.F.length) (yesN 2 (r2.1.Op == (0 : Int)) (rt w2_IsaHalf_e ((((r2.1.F.length) : Nat) : Int) == (0 : Int)))))) (noN 4 (r2.1.Op == (0 : Int)) (rt w2_IsaHalf_e false)))) (noN 3 (!r3.2.2) (noN 5 false (rt w2_IsaHalf_e false))))) (noN 2 (r2.2.1 == (0 : Int)) (noN 9 false (rt w2_IsaHalf_e false)))) (.as ((r2.2.1 == (4 : Int)) == true) (yesN 5 ((r2.2.1 == (4 : Int)) == true) (.as ((r2.2.1 == (2 : Int)) == false) (yesN 4 ((r2.2.1 == (2 : Int)) == false) (.as (r3.2.2 == false) (yesN 2 (r3.2.2 == false) (.call (call 22 [.sc (.int .i64 r2.1.Op)] []) (c_isa_Size r2.1.Op) isa_Size_e fun (r6 : Int) => (yesN 3 (r3.2.2 == false) (rt w2_IsaHalf_e (r6 == r2.2.1))))) (noN 5 (r3.2.2 == false) (rt w2_IsaHalf_e false)))) (noN 4 ((r2.2.1 == (2 : Int)) == false) (noN 6 false (rt w2_IsaHalf_e false))))) (noN 5 ((r2.2.1 == (4 : Int)) == true) (noN 11 false (rt w2_IsaHalf_e false)))))) (.no ((shrI .u8 a0 (4 : Int)) == (5 : Int)) (.yes (decide (0 ≤ (4 : Int))) (noN 2 ((shrI .u8 a0 (4 : Int)) == (5 : Int)) (.as (!r2.2.2) (.as (r2.2.1 == (0 : Int)) (yesN 2 (r2.2.1 == (0 : Int)) (.as (!r3.2.2) (yesN 3 (!r3.2.2) (.as (r2.1.Op == (0 : Int)) (yesN 2 (r2.1.Op == (0 : Int)) (.num ((R_i64 r2.1.F).length) (r2.1.F.length) (yesN 2 (r2.1.Op == (0 : Int)) (rt w2_IsaHalf_e ((((r2.1.F.length) : Nat) : Int) == (0 : Int)))))) (noN 4 (r2.1.Op == (0 : Int)) (rt w2_IsaHalf_e false)))) (noN 3 (!r3.2.2) (noN 5 false (rt w2_IsaHalf_e false))))) (noN 2 (r2.2.1 == (0 : Int)) (noN 9 false (rt w2_IsaHalf_e false)))) (.as ((r2.2.1 == (4 : Int)) == ((shrI .u8 a0 (4 : Int)) == (7 : Int))) (yesN 5 ((r2.2.1 == (4 : Int)) == ((shrI .u8 a0 (4 : Int)) == (7 : Int))) (.as ((r2.2.1 == (2 : Int)) == (!((shrI .u8 a0 (4 : Int)) == (7 : Int)))) (yesN 4 ((r2.2.1 == (2 : Int)) == (!((shrI .u8 a0 (4 : Int)) == (7 : Int)))) (.as (r3.2.2 == (!((shrI .u8 a0 (4 : Int)) == (7 : Int)))) (yesN 2 (r3.2.2 == (!((shrI .u8 a0 (4 : Int)) == (7 : Int)))) (.call (call 22 [.sc (.int .i64 r2.1.Op)] []) (c_isa_Size r2.1.Op) isa_Size_e fun (r7 : Int) => (yesN 3 (r3.2.2 == (!((shrI .u8 a0 (4 : Int)) == (7 : Int)))) (rt w2_IsaHalf_e (r7 == r2.2.1))))) (noN 5 (r3.2.2 == (!((shrI .u8 a0 (4 : Int)) == (7 : Int)))) (rt w2_IsaHalf_e false)))) (noN 4 ((r2.2.1 == (2 : Int)) == (!((shrI .u8 a0 (4 : Int)) == (7 : Int)))) (noN 6 false (rt w2_IsaHalf_e false))))) (noN 5 ((r2.2.1 == (4 : Int)) == ((shrI .u8 a0 (4 : Int)) == (7 : Int))) (noN 11 false (rt w2_IsaHalf_e false)))))))))))))))))))) .fail))))))
theorem w2_IsaHalf_d (P : Program) (call : CallF) (c_w2_known : Option Bool) (c_isa_Decode : (List Int) → Option (T_api_Inst × Int × Bool)) (c_isa_Size : Int → Option Int) (a0 : Int) (a1 : Int) (a2 : Int) (a3 : Int) : (w2_IsaHalf_t P call c_w2_known c_isa_Decode c_isa_Size a0 a1 a2 a3).den = w2_IsaHalf_b c_w2_known c_isa_Decode c_isa_Size a0 a1 a2 a3 := rfl
theorem w2_IsaHalf_n (call : CallF) (c_w2_known : Option Bool) (c_isa_Decode : (List Int) → Option (T_api_Inst × Int × Bool)) (c_isa_Size : Int → Option Int) (a0 : Int) (a1 : Int) (a2 : Int) (a3 : Int) : (w2_IsaHalf_t Tryd.prog call c_w2_known c_isa_Decode c_isa_Size a0 a1 a2 a3).norm (bodyT Tryd.prog call G 6 [.sc (.int .u8 a0), .sc (.int .u8 a1), .sc (.int .u8 a2), .sc (.int .u8 a3)] []) = w2_IsaHalf_t Tryd.prog call c_w2_known c_isa_Decode c_isa_Size a0 a1 a2 a3 := by kernel_rfl
theorem w2_IsaHalf_k (P : Program) (call : CallF) (lp : Loops) (c_w2_known : Option Bool) (c_isa_Decode : (List Int) → Option (T_api_Inst × Int × Bool)) (c_isa_Size : Int → Option Int) (hc_w2_known : ∀  (r : Bool), c_w2_known = some r → (call 14 [] []) = some (w2_known_e r)) (hc_isa_Decode : ∀ (a0 : (List Int)) (r : (T_api_Inst × Int × Bool)), c_isa_Decode a0 = some r → (call 18 [.sl (R_u8 a0)] []) = some (isa_Decode_e r)) (hc_isa_Size : ∀ (a0 : Int) (r : Int), c_isa_Size a0 = some r → (call 22 [.sc (.int .i64 a0)] []) = some (isa_Size_e r)) (a0 : Int) (a1 : Int) (a2 : Int) (a3 : Int) : (w2_IsaHalf_t P call c_w2_known c_isa_Decode c_isa_Size a0 a1 a2 a3).ok lp w2_IsaHalf_e := fun r1 hr1 => ⟨hc_w2_known _ hr1, ⟨rfl, fun h0 => rfl, fun h0 => ⟨(R_u8_map [a0, a1, a2, a3]), fun r2 hr2 => ⟨hc_isa_Decode _ _ hr2, ⟨(decide_eq_true (R_u8_all _)), ⟨(by rw [R_u8_len]), fun h1 => ⟨(by rw [R_u8_slice]), fun r3 hr3 => ⟨hc_isa_Decode _ _ hr3, ⟨rfl, ⟨rfl, fun h2 => yesN_ok 3 (h2) (yesN_ok 8 (rfl) (⟨rfl, fun h3 => ⟨rfl, fun h4 => yesN_ok 2 (h4) (⟨rfl, fun h5 => yesN_ok 3 (h5) (⟨rfl, fun h6 => yesN_ok 2 (h6) (⟨(R_i64_len _), yesN_ok 2 (h6) (rfl)⟩), fun h6 => noN_ok 4 (h6) (rfl)⟩), fun h5 => noN_ok 3 (h5) (noN_ok 5 (rfl) (rfl))⟩), fun h4 => noN_ok 2 (h4) (noN_ok 9 (rfl) (rfl))⟩, fun h3 => ⟨rfl, fun h4 => yesN_ok 5 (h4) (⟨rfl, fun h5 => yesN_ok 4 (h5) (⟨rfl, fun h6 => yesN_ok 2 (h6) (fun r4 hr4 => ⟨hc_isa_Size _ _ hr4, yesN_ok 3 (h6) (rfl)⟩), fun h6 => noN_ok 5 (h6) (rfl)⟩), fun h5 => noN_ok 4 (h5) (noN_ok 6 (rfl) (rfl))⟩), fun h4 => noN_ok 5 (h4) (noN_ok 11 (rfl) (rfl))⟩⟩)), fun h2 => ⟨h2, ⟨rfl, noN_ok 2 (h2) (⟨rfl, fun h3 => yesN_ok 3 (h3) (yesN_ok 4 (rfl) (⟨rfl, fun h4 => ⟨rfl, fun h5 => yesN_ok 2 (h5) (⟨rfl, fun h6 => yesN_ok 3 (h6) (⟨rfl, fun h7 => yesN_ok 2 (h7) (⟨(R_i64_len _), yesN_ok 2 (h7) (rfl)⟩), fun h7 => noN_ok 4 (h7) (rfl)⟩), fun h6 => noN_ok 3 (h6) (noN_ok 5 (rfl) (rfl))⟩), fun h5 => noN_ok 2 (h5) (noN_ok 9 (rfl) (rfl))⟩, fun h4 => ⟨rfl, fun h5 => yesN_ok 5 (h5) (⟨rfl, fun h6 => yesN_ok 4 (h6) (⟨rfl, fun h7 => yesN_ok 2 (h7) (fun r5 hr5 => ⟨hc_isa_Size _ _ hr5, yesN_ok 3 (h7) (rfl)⟩), fun h7 => noN_ok 5 (h7) (rfl)⟩), fun h6 => noN_ok 4 (h6) (noN_ok 6 (rfl) (rfl))⟩), fun h5 => noN_ok 5 (h5) (noN_ok 11 (rfl) (rfl))⟩⟩)), fun h3 => ⟨h3, ⟨rfl, noN_ok 2 (h3) (⟨rfl, fun h4 => yesN_ok 3 (h4) (⟨rfl, fun h5 => ⟨rfl, fun h6 => yesN_ok 2 (h6) (⟨rfl, fun h7 => yesN_ok 3 (h7) (⟨rfl, fun h8 => yesN_ok 2 (h8) (⟨(R_i64_len _), yesN_ok 2 (h8) (rfl)⟩), fun h8 => noN_ok 4 (h8) (rfl)⟩), fun h7 => noN_ok 3 (h7) (noN_ok 5 (rfl) (rfl))⟩), fun h6 => noN_ok 2 (h6) (noN_ok 9 (rfl) (rfl))⟩, fun h5 => ⟨rfl, fun h6 => yesN_ok 5 (h6) (⟨rfl, fun h7 => yesN_ok 4 (h7) (⟨rfl, fun h8 => yesN_ok 2 (h8) (fun r6 hr6 => ⟨hc_isa_Size _ _ hr6, yesN_ok 3 (h8) (rfl)⟩), fun h8 => noN_ok 5 (h8) (rfl)⟩), fun h7 => noN_ok 4 (h7) (noN_ok 6 (rfl) (rfl))⟩), fun h6 => noN_ok 5 (h6) (noN_ok 11 (rfl) (rfl))⟩⟩), fun h4 => ⟨h4, ⟨rfl, noN_ok 2 (h4) (⟨rfl, fun h5 => ⟨rfl, fun h6 => yesN_ok 2 (h6) (⟨rfl, fun h7 => yesN_ok 3 (h7) (⟨rfl, fun h8 => yesN_ok 2 (h8) (⟨(R_i64_len _), yesN_ok 2 (h8) (rfl)⟩), fun h8 => noN_ok 4 (h8) (rfl)⟩), fun h7 => noN_ok 3 (h7) (noN_ok 5 (rfl) (rfl))⟩), fun h6 => noN_ok 2 (h6) (noN_ok 9 (rfl) (rfl))⟩, fun h5 => ⟨rfl, fun h6 => yesN_ok 5 (h6) (⟨rfl, fun h7 => yesN_ok 4 (h7) (⟨rfl, fun h8 => yesN_ok 2 (h8) (fun r7 hr7 => ⟨hc_isa_Size _ _ hr7, yesN_ok 3 (h8) (rfl)⟩), fun h8 => noN_ok 5 (h8) (rfl)⟩), fun h7 => noN_ok 4 (h7) (noN_ok 6 (rfl) (rfl))⟩), fun h6 => noN_ok 5 (h6) (noN_ok 11 (rfl) (rfl))⟩⟩)⟩⟩⟩)⟩⟩⟩)⟩⟩⟩⟩⟩⟩, fun h1 => trivial⟩⟩⟩⟩⟩⟩
theorem w2_IsaHalf_m {c_w2_known d_w2_known : Option Bool} (h_w2_known : Le (c_w2_known ) (d_w2_known )) {c_isa_Decode d_isa_Decode : (List Int) → Option (T_api_Inst × Int × Bool)} (h_isa_Decode : ∀ (a0 : (List Int)), Le (c_isa_Decode a0) (d_isa_Decode a0)) {c_isa_Size d_isa_Size : Int → Option Int} (h_isa_Size : ∀ (a0 : Int), Le (c_isa_Size a0) (d_isa_Size a0)) (a0 : Int) (a1 : Int) (a2 : Int) (a3 : Int) : Le (w2_IsaHalf_b c_w2_known c_isa_Decode c_isa_Size a0 a1 a2 a3) (w2_IsaHalf_b d_w2_known d_isa_Decode d_isa_Size a0 a1 a2 a3) := by
  unfold w2_IsaHalf_b
  exact .bind (h_w2_known) fun r1 => .cond (.refl _) (.bind (h_isa_Decode _) fun r2 => .cond (.bind (h_isa_Decode _) fun r3 => .cond (.cond (.refl _) (.cond (.cond (.cond (.bind (h_isa_Size _) fun r4 => .refl _) (.refl _)) (.refl _)) (.refl _))) (.cond (.cond (.refl _) (.cond (.cond (.cond (.bind (h_isa_Size _) fun r5 => .refl _) (.refl _)) (.refl _)) (.refl _))) (.cond (.cond (.refl _) (.cond (.cond (.cond (.bind (h_isa_Size _) fun r6 => .refl _) (.refl _)) (.refl _)) (.refl _))) (.cond (.refl _) (.cond (.cond (.cond (.bind (h_isa_Size _) fun r7 => .refl _) (.refl _)) (.refl _)) (.refl _)))))) (.refl _))
theorem w2_IsaHalf_c {c_w2_known : Nat → Option Bool} {d_w2_known : Option Bool} (h_w2_known : Cv (fun k => c_w2_known k ) (d_w2_known )) {c_isa_Decode : Nat → (List Int) → Option (T_api_Inst × Int × Bool)} {d_isa_Decode : (List Int) → Option (T_api_Inst × Int × Bool)} (h_isa_Decode : ∀ (a0 : (List Int)), Cv (fun k => c_isa_Decode k a0) (d_isa_Decode a0)) {c_isa_Size : Nat → Int → Option Int} {d_isa_Size : Int → Option Int} (h_isa_Size : ∀ (a0 : Int), Cv (fun k => c_isa_Size k a0) (d_isa_Size a0)) (a0 : Int) (a1 : Int) (a2 : Int) (a3 : Int) : Cv (fun k => w2_IsaHalf_b (c_w2_known k) (c_isa_Decode k) (c_isa_Size k) a0 a1 a2 a3) (w2_IsaHalf_b d_w2_known d_isa_Decode d_isa_Size a0 a1 a2 a3) := by
  unfold w2_IsaHalf_b
  exact .bind (h_w2_known) fun r1 => .cond (by exact .const _) (.bind (h_isa_Decode _) fun r2 => .cond (.bind (h_isa_Decode _) fun r3 => .cond (.cond (by exact .const _) (.cond (.cond (.cond (.bind (h_isa_Size _) fun r4 => by exact .const _) (by exact .const _)) (by exact .const _)) (by exact .const _))) (.cond (.cond (by exact .const _) (.cond (.cond (.cond (.bind (h_isa_Size _) fun r5 => by exact .const _) (by exact .const _)) (by exact .const _)) (by exact .const _))) (.cond (.cond (by exact .const _) (.cond (.cond (.cond (.bind (h_isa_Size _) fun r6 => by exact .const _) (by exact .const _)) (by exact .const _)) (by exact .const _))) (.cond (by exact .const _) (.cond (.cond (.cond (.bind (h_isa_Size _) fun r7 => by exact .const _) (by exact .const _)) (by exact .const _)) (by exact .const _)))))) (by exact .const _))
def w2_IsaHalf.s : Nat → Int → Int → Int → Int → Option Bool
  | 0, _, _, _, _ => none
  | k + 1, a0, a1, a2, a3 => w2_IsaHalf_b (w2_known.s k) (fun a0 => isa_Decode.s k a0) (fun a0 => isa_Size.s k a0) a0 a1 a2 a3
theorem w2_IsaHalf.ok : ∀ (k : Nat), ∀ (a0 : Int) (a1 : Int) (a2 : Int) (a3 : Int) (r : Bool), w2_IsaHalf.s k a0 a1 a2 a3 = some r → evalFn Tryd.prog G k 6 [.sc (.int .u8 a0), .sc (.int .u8 a1), .sc (.int .u8 a2), .sc (.int .u8 a3)] [] = some (w2_IsaHalf_e r)
  | 0, _, _, _, _, _, h => (nomatch h)
  | k + 1, a0, a1, a2, a3, r, h => fn_ok rfl (w2_IsaHalf_t Tryd.prog (evalFn Tryd.prog G k) (w2_known.s k) (fun a0 => isa_Decode.s k a0) (fun a0 => isa_Size.s k a0) a0 a1 a2 a3) (w2_IsaHalf_n _ (w2_known.s k) (fun a0 => isa_Decode.s k a0) (fun a0 => isa_Size.s k a0) a0 a1 a2 a3) (w2_IsaHalf_k _ _ _ (w2_known.s k) (fun a0 => isa_Decode.s k a0) (fun a0 => isa_Size.s k a0) (w2_known.ok k) (isa_Decode.ok k) (isa_Size.ok k)  a0 a1 a2 a3) ((w2_IsaHalf_d _ _ (w2_known.s k) (fun a0 => isa_Decode.s k a0) (fun a0 => isa_Size.s k a0) a0 a1 a2 a3).trans h)
theorem w2_IsaHalf.mono : ∀ (k : Nat) (a0 : Int) (a1 : Int) (a2 : Int) (a3 : Int), Le (w2_IsaHalf.s k a0 a1 a2 a3) (w2_IsaHalf.s (k + 1) a0 a1 a2 a3)
  | 0, _, _, _, _ => fun r h => (nomatch h)
  | k + 1, a0, a1, a2, a3 => w2_IsaHalf_m (w2_known.mono k) (isa_Decode.mono k) (isa_Size.mono k) a0 a1 a2 a3
noncomputable def w2_IsaHalf (a0 : Int) (a1 : Int) (a2 : Int) (a3 : Int) : Option Bool := lim fun k => w2_IsaHalf.s k a0 a1 a2 a3
theorem w2_IsaHalf.cv (a0 : Int) (a1 : Int) (a2 : Int) (a3 : Int) : Cv (fun k => w2_IsaHalf.s k a0 a1 a2 a3) (w2_IsaHalf a0 a1 a2 a3) := .lim fun k => w2_IsaHalf.mono k a0 a1 a2 a3
theorem w2_IsaHalf.eq (a0 : Int) (a1 : Int) (a2 : Int) (a3 : Int) : w2_IsaHalf a0 a1 a2 a3 = w2_IsaHalf_b w2_known isa_Decode isa_Size a0 a1 a2 a3 := Cv.uniq (w2_IsaHalf.cv a0 a1 a2 a3).shift (w2_IsaHalf_c w2_known.cv isa_Decode.cv isa_Size.cv a0 a1 a2 a3)
theorem w2_IsaHalf.run (a0 : Int) (a1 : Int) (a2 : Int) (a3 : Int) {r : Bool} (h : w2_IsaHalf a0 a1 a2 a3 = some r) : ∃ k, evalFn Tryd.prog G k 6 [.sc (.int .u8 a0), .sc (.int .u8 a1), .sc (.int .u8 a2), .sc (.int .u8 a3)] [] = some (w2_IsaHalf_e r) :=
  let ⟨k, hk⟩ := ((w2_IsaHalf.cv a0 a1 a2 a3).2 r).1 h
  ⟨k, w2_IsaHalf.ok k a0 a1 a2 a3 r hk⟩

end Go.Ab
namespace Go.Proofs.YticofbaajdgabaaDoor
open Go Go.Ab Go.RowKit Go.Shelf
theorem gSp : Tryd.prog.globalNamed "strings.asciiSpace" = some 0 := by kernel_rfl
theorem tSp : (Tryd.prog.globals[0]?).map (·.type) = some 96 := by kernel_rfl
theorem cells_u8 : Tryd.prog.cellsOf 5 = 1 := by kernel_rfl
theorem cells_sp : Tryd.prog.cellsOf 96 = 256 := by kernel_rfl
theorem datum {H : Type} : (Rows.laid_strings_asciiSpace : DataW H) = Lib.tabData .u8 Lib.asciiSpaceTab := by kernel_rfl
def told : Ab.Told := told1 Tryd.prog "strings.asciiSpace" 0 (Lib.asciiSpaceTab.map fun z => Value.int .u8 z).toArray
theorem told_of {W : World} (h : laidMetH Tryd.prog [("unicode.White_Space", Rows.laid_unicode_White_Space), ("strings.asciiSpace", Rows.laid_strings_asciiSpace)] W) : told.T (oldCtx W).Z W := by
  rw [MakeChecks.laidMetH_plain _ _ _ (by kernel_rfl)] at h
  obtain ⟨ps, ⟨g0, t0, cs0, f0, p0, q0, hg0, ht0, hv0, hd0, ⟨g2, t2, cs2, f2, p2, q2, hg2, ht2, hv2, hd2, _⟩, _⟩, _⟩ := h
  obtain rfl := Option.some.inj (gSp.symm.trans hg2)
  obtain rfl := Option.some.inj (tSp.symm.trans ht2)
  rw [datum] at hd2
  refine tabT_old gSp (hv2.trans ?_) (of_decide_eq_true (by kernel_rfl))
  have := Lib.cells_of_tab Tryd.underlying96 Tryd.underlying5 cells_u8 cells_sp hd2
  rw [← this]
set_option maxHeartbeats 2000000 in
set_option maxRecDepth 100000 in
theorem cli_nil (n c : Nat) (w : World) : Calls Tryd.prog 44 #[.slice none n c] w fun e w' => e = .returned (.slice none 0 0) ∧ w' = w := by
  have mixed : Tryd.prog.follows .mixedOrders = true := by kernel_rfl
  have t0 := Tryd.underlying3; have a0 := Tryd.isAgg3; have z0 := Tryd.sizeOf3; have v0 := Tryd.zeroValue3; have t1 := Tryd.underlying23; have a1 := Tryd.isAgg23; have z1 := Tryd.sizeOf23; have v1 := Tryd.zeroValue23; have t2 := Tryd.underlying4; have a2 := Tryd.isAgg4; have z2 := Tryd.sizeOf4; have v2 := Tryd.zeroValue4
  have q22 : ∀ (w : World) (a : Option Addr) (n c n' c' : Nat), (binOp .eql 23 (.slice a n c) (.slice none n' c')).run Tryd.prog w = .ok (.bool a.isNone) w := fun w a n c n' c' => Lib.run_eql_slice_nil w _ _ a n c n' c' t1
  go_enter Tryd.func44, Tryd.ntmps44
  go_wp2
  go_ret
  exact ⟨rfl, rfl⟩
set_option maxHeartbeats 2000000 in
set_option maxRecDepth 100000 in
theorem cli_zero (a : Addr) (c : Nat) (w : World) : Calls Tryd.prog 44 #[.slice (some a) 0 c] w fun e w' => ∃ v', e = .returned v' ∧ w'.ownsRow w.heap.size 3 1 v' 0 [] ∧ Below w.heap.size w w' := by
  have mixed : Tryd.prog.follows .mixedOrders = true := by kernel_rfl
  have t0 := Tryd.underlying3; have a0 := Tryd.isAgg3; have z0 := Tryd.sizeOf3; have v0 := Tryd.zeroValue3; have t1 := Tryd.underlying23; have a1 := Tryd.isAgg23; have z1 := Tryd.sizeOf23; have v1 := Tryd.zeroValue23; have t2 := Tryd.underlying4; have a2 := Tryd.isAgg4; have z2 := Tryd.sizeOf4; have v2 := Tryd.zeroValue4
  have q22 : ∀ (w : World) (a : Option Addr) (n c n' c' : Nat), (binOp .eql 23 (.slice a n c) (.slice none n' c')).run Tryd.prog w = .ok (.bool a.isNone) w := fun w a n c n' c' => Lib.run_eql_slice_nil w _ _ a n c n' c' t1
  have hinfo : (Tryd.prog.info? 3).map (fun i => (i.zero, i.size, i.bytes)) = some (some (.int .i64 0), 1, 8) := by kernel_rfl
  obtain ⟨i0, hi, hz0, hz1, hz2⟩ := info_parts hinfo
  have u22 : ∀ w, Sem.run Tryd.prog (underlying 23) w = .ok (TypeDesc.slice 3) w := run_underlying t1
  go_enter Tryd.func44, Tryd.ntmps44
  go_wp2_with (at_builtin; refine wpList_append_own _ rfl _ _ 23 rfl w.heap.size 3 i0 (.int .i64 0) 1 8 t1 hi hz0 hz1 hz2 rfl (by decide) _ _ _ rfl (World.ownsRow_made w #[] 0 (Nat.le_refl _) (Nat.zero_le _) rfl) a 0 c [] rfl rfl (by intro j u hj; simp at hj) (by intro u hu; cases hu) (by unfold maxLen; omega) (by omega) (by simp) ?_)
  intro v' w1 hown hgrow hnil
  go_wp2
  go_ret
  refine ⟨v', rfl, by simpa using hown, ?_⟩
  exact ((Below.refl _ w).alloc (Nat.le_refl _) _).grown hgrow (by simp) (by intro k hk; simp [Value.ownBlock] at hk; omega)
set_option maxHeartbeats 2000000 in
set_option maxRecDepth 100000 in
theorem cli_some (b off c : Nat) (zs : List Value) (w : World) (hbig : zs.length * 8 ≤ 140737488355328) (hsc : zs.all scal = true) (hc : ∀ (j : Nat) z, zs[j]? = some z → w.cell? ⟨b, off + j, none⟩ = some z) :
    Calls Tryd.prog 44 #[.slice (some ⟨b, off, none⟩) zs.length c] w fun e w' => ∃ v', e = .returned v' ∧ w'.ownsRow w.heap.size 3 1 v' zs.length zs ∧ Below w.heap.size w w' := by
  have mixed : Tryd.prog.follows .mixedOrders = true := by kernel_rfl
  have t0 := Tryd.underlying3; have a0 := Tryd.isAgg3; have z0 := Tryd.sizeOf3; have v0 := Tryd.zeroValue3; have t1 := Tryd.underlying23; have a1 := Tryd.isAgg23; have z1 := Tryd.sizeOf23; have v1 := Tryd.zeroValue23; have t2 := Tryd.underlying4; have a2 := Tryd.isAgg4; have z2 := Tryd.sizeOf4; have v2 := Tryd.zeroValue4
  have q22 : ∀ (w : World) (a : Option Addr) (n c n' c' : Nat), (binOp .eql 23 (.slice a n c) (.slice none n' c')).run Tryd.prog w = .ok (.bool a.isNone) w := fun w a n c n' c' => Lib.run_eql_slice_nil w _ _ a n c n' c' t1
  have hinfo : (Tryd.prog.info? 3).map (fun i => (i.zero, i.size, i.bytes)) = some (some (.int .i64 0), 1, 8) := by kernel_rfl
  obtain ⟨i0, hi, hz0, hz1, hz2⟩ := info_parts hinfo
  have u22 : ∀ w, Sem.run Tryd.prog (underlying 23) w = .ok (TypeDesc.slice 3) w := run_underlying t1
  have A : Aside (∀ (j : Nat) z, zs[j]? = some z → w.cell? ⟨b, off + j, none⟩ = some z) := hc
  clear hc
  go_enter Tryd.func44, Tryd.ntmps44
  go_wp2_with (at_builtin; refine wpList_append_own _ rfl _ _ 23 rfl w.heap.size 3 i0 (.int .i64 0) 1 8 t1 hi hz0 hz1 hz2 rfl (by decide) _ _ _ rfl (World.ownsRow_made w #[] 0 (Nat.le_refl _) (Nat.zero_le _) rfl) ⟨b, off, none⟩ zs.length c zs rfl ?qc1 ?qc2 ?qc3 ?qc4 ?qc5 ?qc6 ?_)
  case qc1 => simp
  case qc2 =>
    intro j u hj
    rw [Addr.add_lit]
    exact Lib.cell?_alloc_some _ (A.out j u hj)
  case qc3 => intro u hu; exact oneCell_leaf (c := oldCtx w) (w := w) (.sc u (List.all_eq_true.1 hsc u hu)) rfl
  case qc4 => unfold maxLen; omega
  case qc5 => omega
  case qc6 => simp
  intro v' w1 hown hgrow hnil
  go_wp2
  go_ret
  refine ⟨v', rfl, by simpa using hown, ?_⟩
  exact ((Below.refl _ w).alloc (Nat.le_refl _) _).grown hgrow (by simp) (by intro k hk; simp [Value.ownBlock] at hk; omega)

set_option maxHeartbeats 2000000 in
set_option maxRecDepth 100000 in
theorem clb_nil (n c : Nat) (w : World) : Calls Tryd.prog 46 #[.slice none n c] w fun e w' => e = .returned (.slice none 0 0) ∧ w' = w := by
  have mixed : Tryd.prog.follows .mixedOrders = true := by kernel_rfl
  have t0 := Tryd.underlying5; have a0 := Tryd.isAgg5; have z0 := Tryd.sizeOf5; have v0 := Tryd.zeroValue5; have t1 := Tryd.underlying22; have a1 := Tryd.isAgg22; have z1 := Tryd.sizeOf22; have v1 := Tryd.zeroValue22; have t2 := Tryd.underlying4; have a2 := Tryd.isAgg4; have z2 := Tryd.sizeOf4; have v2 := Tryd.zeroValue4
  have q22 : ∀ (w : World) (a : Option Addr) (n c n' c' : Nat), (binOp .eql 22 (.slice a n c) (.slice none n' c')).run Tryd.prog w = .ok (.bool a.isNone) w := fun w a n c n' c' => Lib.run_eql_slice_nil w _ _ a n c n' c' t1
  go_enter Tryd.func46, Tryd.ntmps46
  go_wp2
  go_ret
  exact ⟨rfl, rfl⟩
set_option maxHeartbeats 2000000 in
set_option maxRecDepth 100000 in
theorem clb_zero (a : Addr) (c : Nat) (w : World) : Calls Tryd.prog 46 #[.slice (some a) 0 c] w fun e w' => ∃ v', e = .returned v' ∧ w'.ownsRow w.heap.size 5 1 v' 0 [] ∧ Below w.heap.size w w' := by
  have mixed : Tryd.prog.follows .mixedOrders = true := by kernel_rfl
  have t0 := Tryd.underlying5; have a0 := Tryd.isAgg5; have z0 := Tryd.sizeOf5; have v0 := Tryd.zeroValue5; have t1 := Tryd.underlying22; have a1 := Tryd.isAgg22; have z1 := Tryd.sizeOf22; have v1 := Tryd.zeroValue22; have t2 := Tryd.underlying4; have a2 := Tryd.isAgg4; have z2 := Tryd.sizeOf4; have v2 := Tryd.zeroValue4
  have q22 : ∀ (w : World) (a : Option Addr) (n c n' c' : Nat), (binOp .eql 22 (.slice a n c) (.slice none n' c')).run Tryd.prog w = .ok (.bool a.isNone) w := fun w a n c n' c' => Lib.run_eql_slice_nil w _ _ a n c n' c' t1
  have hinfo : (Tryd.prog.info? 5).map (fun i => (i.zero, i.size, i.bytes)) = some (some (.int .u8 0), 1, 1) := by kernel_rfl
  obtain ⟨i0, hi, hz0, hz1, hz2⟩ := info_parts hinfo
  have u22 : ∀ w, Sem.run Tryd.prog (underlying 22) w = .ok (TypeDesc.slice 5) w := run_underlying t1
  go_enter Tryd.func46, Tryd.ntmps46
  go_wp2_with (at_builtin; refine wpList_append_own _ rfl _ _ 22 rfl w.heap.size 5 i0 (.int .u8 0) 1 1 t1 hi hz0 hz1 hz2 rfl (by decide) _ _ _ rfl (World.ownsRow_made w #[] 0 (Nat.le_refl _) (Nat.zero_le _) rfl) a 0 c [] rfl rfl (by intro j u hj; simp at hj) (by intro u hu; cases hu) (by unfold maxLen; omega) (by omega) (by simp) ?_)
  intro v' w1 hown hgrow hnil
  go_wp2
  go_ret
  refine ⟨v', rfl, by simpa using hown, ?_⟩
  exact ((Below.refl _ w).alloc (Nat.le_refl _) _).grown hgrow (by simp) (by intro k hk; simp [Value.ownBlock] at hk; omega)
set_option maxHeartbeats 2000000 in
set_option maxRecDepth 100000 in
theorem clb_some (b off c : Nat) (zs : List Value) (w : World) (hbig : zs.length * 1 ≤ 140737488355328) (hsc : zs.all scal = true) (hc : ∀ (j : Nat) z, zs[j]? = some z → w.cell? ⟨b, off + j, none⟩ = some z) :
    Calls Tryd.prog 46 #[.slice (some ⟨b, off, none⟩) zs.length c] w fun e w' => ∃ v', e = .returned v' ∧ w'.ownsRow w.heap.size 5 1 v' zs.length zs ∧ Below w.heap.size w w' := by
  have mixed : Tryd.prog.follows .mixedOrders = true := by kernel_rfl
  have t0 := Tryd.underlying5; have a0 := Tryd.isAgg5; have z0 := Tryd.sizeOf5; have v0 := Tryd.zeroValue5; have t1 := Tryd.underlying22; have a1 := Tryd.isAgg22; have z1 := Tryd.sizeOf22; have v1 := Tryd.zeroValue22; have t2 := Tryd.underlying4; have a2 := Tryd.isAgg4; have z2 := Tryd.sizeOf4; have v2 := Tryd.zeroValue4
  have q22 : ∀ (w : World) (a : Option Addr) (n c n' c' : Nat), (binOp .eql 22 (.slice a n c) (.slice none n' c')).run Tryd.prog w = .ok (.bool a.isNone) w := fun w a n c n' c' => Lib.run_eql_slice_nil w _ _ a n c n' c' t1
  have hinfo : (Tryd.prog.info? 5).map (fun i => (i.zero, i.size, i.bytes)) = some (some (.int .u8 0), 1, 1) := by kernel_rfl
  obtain ⟨i0, hi, hz0, hz1, hz2⟩ := info_parts hinfo
  have u22 : ∀ w, Sem.run Tryd.prog (underlying 22) w = .ok (TypeDesc.slice 5) w := run_underlying t1
  have A : Aside (∀ (j : Nat) z, zs[j]? = some z → w.cell? ⟨b, off + j, none⟩ = some z) := hc
  clear hc
  go_enter Tryd.func46, Tryd.ntmps46
  go_wp2_with (at_builtin; refine wpList_append_own _ rfl _ _ 22 rfl w.heap.size 5 i0 (.int .u8 0) 1 1 t1 hi hz0 hz1 hz2 rfl (by decide) _ _ _ rfl (World.ownsRow_made w #[] 0 (Nat.le_refl _) (Nat.zero_le _) rfl) ⟨b, off, none⟩ zs.length c zs rfl ?qc1 ?qc2 ?qc3 ?qc4 ?qc5 ?qc6 ?_)
  case qc1 => simp
  case qc2 =>
    intro j u hj
    rw [Addr.add_lit]
    exact Lib.cell?_alloc_some _ (A.out j u hj)
  case qc3 => intro u hu; exact oneCell_leaf (c := oldCtx w) (w := w) (.sc u (List.all_eq_true.1 hsc u hu)) rfl
  case qc4 => unfold maxLen; omega
  case qc5 => omega
  case qc6 => simp
  intro v' w1 hown hgrow hnil
  go_wp2
  go_ret
  refine ⟨v', rfl, by simpa using hown, ?_⟩
  exact ((Below.refl _ w).alloc (Nat.le_refl _) _).grown hgrow (by simp) (by intro k hk; simp [Value.ownBlock] at hk; omega)

structure Dr (w w' : World) : Prop where mk :: (out : ∃ n, w' = w.drewN n)
theorem Dr.refl (w : World) : Dr w w := ⟨⟨0, rfl⟩⟩
theorem Dr.step {w w' : World} (h : Dr w w') (n : Nat) : Dr w (w'.drewN n) := by
  obtain ⟨⟨k, rfl⟩⟩ := h
  exact ⟨⟨k + n, World.drewN_drewN ..⟩⟩
theorem Dr.below {w w' : World} (h : Dr w w') : Below w.heap.size w w' := by
  obtain ⟨⟨n, rfl⟩⟩ := h; exact Joins.below_draws _ _ _
open Go.Fl (ldw)
theorem fl_tobits (c : Nat) (w : World) : (callFunc 94 #[.float .f64 c]).run Tryd.prog w = .ok (.value (.int .u64 c)) w := by kernel_rfl
theorem fl_frombits (n : Int) (w : World) : (callFunc 97 #[.int .u64 n]).run Tryd.prog w = .ok (.value (.float .f64 n.toNat)) w := by kernel_rfl
theorem fl_absone : Go.bits .andNot .u64 4607182418800017408 9223372036854775808 = 4607182418800017408 := by decide +kernel
theorem fl_mulfmt : ∀ n : Fin 41, FloatKind.f64.format.mul 4607182418800017408 (Go.bits .or .u64 0 (((n.val : Int) + 1023) * 4503599627370496)).toNat = some (ldw n.val) := by decide +kernel
theorem fl_mulone (k : Int) (h0 : 0 ≤ k) (h1 : k ≤ 40) (w : World) : (binOp .mul 105 (.float .f64 4607182418800017408) (.float .f64 (Go.bits .or .u64 0 ((k + 1023) * 4503599627370496)).toNat)).run Tryd.prog w = .ok (.float .f64 (ldw k)) w := by
  have h := fl_mulfmt ⟨k.toNat, by omega⟩
  simp only [Int.toNat_of_nonneg h0] at h
  simp [binOp, Op.floatArith, h]
theorem fl_negfmt : ∀ n : Fin 41, Op.negFloat .f64 (ldw n.val) = 9223372036854775808 + ldw n.val := by decide +kernel
theorem fl_neg (k : Int) (h0 : 0 ≤ k) (h1 : k ≤ 40) (w : World) : (Op.unary .neg (.float .f64 (ldw k))).run Tryd.prog w = .ok (.float .f64 (9223372036854775808 + ldw k)) w := by
  have h := fl_negfmt ⟨k.toNat, by omega⟩
  simp only [Int.toNat_of_nonneg h0] at h
  simp [Op.unary, h]
set_option maxHeartbeats 2000000 in
theorem fl_ldexp (k : Int) (h0 : 0 ≤ k) (h1 : k ≤ 40) (w : World) : Calls Tryd.prog 83 #[.float .f64 4607182418800017408, .int .i64 k] w fun e w' => e = .returned (.float .f64 (ldw k)) ∧ w = w' := by
  have tb := fl_tobits
  have fb := fl_frombits
  have ao := fl_absone
  have a1 : Go.bits .and .i64 1023 2047 = 1023 := by decide +kernel
  have a2 : Go.bits .andNot .u64 4607182418800017408 9218868437227405312 = 0 := by decide +kernel
  have hm := fl_mulone k h0 h1
  go_enter Tryd.func83, Tryd.ntmps83
  go_wp2
  go_ret
  exact ⟨rfl, rfl⟩
theorem fl_close (a0 a1 : Int) (h0 : 1 ≤ a1) (h1 : a1 ≤ 41) :
    ((FloatKind.f64.format.order (floatOfInt FloatKind.f64 a0) (9223372036854775808 + ldw (a1 - 1)) == some Ordering.gt || FloatKind.f64.format.order (floatOfInt FloatKind.f64 a0) (9223372036854775808 + ldw (a1 - 1)) == some Ordering.eq) && FloatKind.f64.format.order (floatOfInt FloatKind.f64 a0) (ldw (a1 - 1)) == some Ordering.lt) = decide (-(2 ^ (a1 - 1).toNat) ≤ a0 ∧ a0 < 2 ^ (a1 - 1).toNat) := by
  have h := Go.Fl.fits_is a0 (a1 - 1).toNat (by omega)
  rw [Int.toNat_of_nonneg (by omega)] at h
  exact h
theorem fl_ret {a b : Bool} (h : a = b) : Ending.returned (.bool a) = Ending.returned (.bool b) := by rw [h]
theorem fl_no {a b : Option Ordering} (h : ¬(a = some Ordering.gt ∨ a = some Ordering.eq)) : false = ((a == some Ordering.gt || a == some Ordering.eq) && b == some Ordering.lt) := by
  symm
  rw [Bool.and_eq_false_iff]
  left
  rw [Bool.or_eq_false_iff]
  constructor
  · exact beq_eq_false_iff_ne.2 (fun e => h (.inl e))
  · exact beq_eq_false_iff_ne.2 (fun e => h (.inr e))
set_option maxHeartbeats 2000000 in
theorem imm_Fits.calls (a0 : Int) (a1 : Int) (r : Bool) (w : World) (h : fitsS a0 a1 = some r) :
    Calls Tryd.prog 77 #[.int .i64 a0, .int .i64 a1] w fun e w' => e = .returned (.bool r) ∧ Dr w w' := by
  unfold fitsS at h
  by_cases h0 : 1 ≤ a1
  · rw [if_pos h0] at h
    by_cases h1 : a1 ≤ 41
    · rw [if_pos h1] at h
      obtain rfl := Option.some.inj h
      clear h
      have hneg := fl_neg (a1 - 1) (by omega) (by omega)
      go_enter Tryd.func77, Tryd.ntmps77
      go_wp2_with (go_at_call 83; refine (fl_ldexp _ (by omega) (by omega) _).mono ?_; rintro e w' ⟨rfl, rfl⟩)
      all_goals
        go_ret
        refine ⟨fl_ret ?_, by repeat (first | exact Dr.refl _ | apply Dr.step)⟩
        first
        | exact fl_close a0 a1 h0 h1
        | exact (fl_no (by assumption)).trans (fl_close a0 a1 h0 h1)
    · rw [if_neg h1] at h; cases h
  · rw [if_neg h0] at h; cases h
theorem ok_fits : FnOK1 told Tryd.prog 77 fitsX := fnOK1_fits fun v b r w h => (imm_Fits.calls v b r w h).mono fun _ _ h => ⟨h.1, h.2.below⟩

theorem ok_fields : FnOK1 told Tryd.prog 55 fieldsX := fnOK1_fields fun s Z w h1 h2 hT => Tryd.strings_Fields_laid s w h1 h2 hT.2.2.1
theorem ok_cli : FnOK1 told Tryd.prog 44 (cloneV 8) := fnOK1_cloneV (e_ := 3) cli_nil cli_zero cli_some
theorem ok_clb : FnOK1 told Tryd.prog 46 (cloneV 1) := fnOK1_cloneV (e_ := 5) clb_nil clb_zero clb_some
theorem ext_ok (f : FuncId) (x : List AV → Heap → Option (AV × Heap)) (h : G.ext f = some x) : FnOK1 told Tryd.prog f x := by
  have h' : Go.Ab.get f extT = some x := h
  simp only [extT, Go.Ab.get] at h'
  repeat' split at h'
  all_goals first
    | cases h'; done
    | (rename_i e; subst e; cases h'; first | exact ok_fields | exact ok_fits | exact ok_cli | exact ok_clb)
end Go.Proofs.YticofbaajdgabaaDoor
set_option maxRecDepth 100000
namespace Go.Ab
theorem w2_known_true : w2_known = some true := cv_some w2_known.cv 2000 (by kernel_rfl)
theorem w2_within_eq (a n : Int) (hn : 0 < n) (hn2 : n ≤ 4611686018427387904) : w2_within a n = some (a % n) := by
  rw [w2_within.eq]; exact withinV_eq a n hn hn2
theorem le_of_cv {α : Type} {F : Nat → Option α} {x : Option α} (h : Cv F x) (k : Nat) : Le (F k) x := fun r e => cv_some h k e
theorem known_all : ((List.range 19).all fun i => (w2_IsaKnown_b (w2_known.s 2000) (fun _ _ => some (i : Int)) (isa_Encode.s 2000) 0).isEqSome true) = true := by kernel_rfl
theorem w2_IsaKnown_true (a0 : Int) (w0 : IntKind.i64.min ≤ a0 ∧ a0 ≤ IntKind.i64.max) : w2_IsaKnown a0 = some true := by
  have h1 := Int.emod_nonneg a0 (by decide : (19 : Int) ≠ 0)
  have h2 := Int.emod_lt_of_pos a0 (by decide : (0 : Int) < 19)
  have hw := w2_within_eq a0 19 (by decide) (by decide)
  have hk := List.all_eq_true.1 known_all (a0 % 19).toNat (List.mem_range.2 (by omega))
  have hk' : w2_IsaKnown_b (w2_known.s 2000) (fun _ _ => some (((a0 % 19).toNat : Nat) : Int)) (isa_Encode.s 2000) 0 = some true := by
    cases h : w2_IsaKnown_b (w2_known.s 2000) (fun _ _ => some (((a0 % 19).toNat : Nat) : Int)) (isa_Encode.s 2000) 0 with
    | none => rw [h] at hk; cases hk
    | some b => rw [h] at hk; simpa [Option.isEqSome] using hk
  rw [Int.toNat_of_nonneg h1] at hk'
  rw [w2_IsaKnown.eq]
  have e : w2_IsaKnown_b w2_known w2_within isa_Encode a0 = w2_IsaKnown_b w2_known (fun _ _ => w2_within a0 19) isa_Encode a0 := rfl
  rw [e, hw]
  exact w2_IsaKnown_m (le_of_cv w2_known.cv 2000) (fun _ _ => .refl _) (fun x => le_of_cv (isa_Encode.cv x) 2000) a0 true hk'
end Go.Ab
namespace Go.Ab
abbrev Ui (x : Int) : Nat := (BitVec.ofInt 64 x).toNat
theorem Ui_eq (x : Int) : (Ui x : Int) = x % 18446744073709551616 := by
  show (((BitVec.ofInt 64 x).toNat : Nat) : Int) = _
  rw [BitVec.toNat_ofInt]; simp; omega
theorem andI_255 (x : Int) : andI .i64 x 255 = x % 256 := by
  have e : andI .i64 x 255 = w64 ((Ui x &&& Ui 255 : Nat) : Int) := by
    show IntKind.i64.wrap _ = IntKind.i64.wrap _
    rw [← BitVec.toNat_and]; rfl
  have h255 : Ui 255 = 2 ^ 8 - 1 := by decide
  rw [e, h255, Nat.and_two_pow_sub_one_eq_mod]
  have := Ui_eq x
  rw [w64_in (by omega) (by omega)]; omega
theorem or_byte {x b : Int} (hx : 0 ≤ x ∧ x < 16777216) (hb : 0 ≤ b ∧ b < 256) : orI .i64 (shlI .i64 x 8) b = x * 256 + b := by
  have hs : shlI .i64 x 8 = x * 256 := by
    unfold shlI
    rw [show min (Int.toNat 8) IntKind.i64.bits = 8 from rfl, show ((2 : Int) ^ 8) = 256 from rfl]
    exact w64_in (by omega) (by omega)
  rw [hs]
  have e : orI .i64 (x * 256) b = w64 ((Ui (x * 256) ||| Ui b : Nat) : Int) := by
    show IntKind.i64.wrap _ = IntKind.i64.wrap _
    rw [← BitVec.toNat_or]; rfl
  have h1 := Ui_eq (x * 256)
  have h2 := Ui_eq b
  obtain ⟨n, rfl⟩ := Int.eq_ofNat_of_zero_le hx.1
  obtain ⟨m, rfl⟩ := Int.eq_ofNat_of_zero_le hb.1
  have e1 : Ui ((n : Int) * 256) = n <<< 8 := by rw [Nat.shiftLeft_eq]; omega
  have e2 : Ui (m : Int) = m := by omega
  rw [e, e1, e2, ← Nat.shiftLeft_add_eq_or_of_lt (by omega : m < 2 ^ 8), Nat.shiftLeft_eq, w64_in (by omega) (by omega)]
  omega
def sgn32 (v : Int) : Int := if v < 2147483648 then v else v - 4294967296
theorem sign32 {v : Int} (h0 : 0 ≤ v) (h1 : v < 4294967296) : imm_Sign v 32 = some (sgn32 v) := by
  rw [imm_Sign.eq]; unfold imm_Sign_b
  have e : w64 (64 - (if (64 : Int) < (if (1 : Int) > 32 then 1 else 32) then 64 else (if (1 : Int) > 32 then 1 else 32))) = 32 := by decide
  rw [e]
  have c1 : decide ((0 : Int) ≤ 32) = true := rfl
  rw [c1, cond_true]
  congr 1
  unfold shlI shrI
  rw [show min (Int.toNat 32) IntKind.i64.bits = 32 from rfl, show ((2 : Int) ^ 32) = 4294967296 from rfl, Int.fdiv_eq_ediv_of_nonneg _ (by decide)]
  have hw : IntKind.i64.wrap (v * 4294967296) = v * 4294967296 - (if v * 4294967296 ≥ 9223372036854775808 then 18446744073709551616 else 0) := by
    have e : (v * 4294967296) % 18446744073709551616 = v * 4294967296 := Int.emod_eq_of_lt (by omega) (by omega)
    unfold IntKind.wrap
    simp [IntKind.bits, IntKind.signed, e]
    split <;> omega
  rw [hw]; unfold sgn32
  split <;> split <;> omega
/-- four bytes as a number -/
def pk4 (a b c d : Int) : Int := ((a * 256 + b) * 256 + c) * 256 + d
/-- the number that a form gives for a byte -/
def fb (f : Bool) : Int := if f then 255 else 0
def bk (f : Bool) (s : Nat) (u : Int) : Int := pk4 (if s = 3 then u else fb f) (if s = 2 then u else fb f) (if s = 1 then u else fb f) (if s = 0 then u else fb f)
abbrev byt (x : Int) : Prop := 0 ≤ x ∧ x < 256
theorem back_step (f : Bool) (s : Nat) {u x : Int} (hu : byt u) (hx : 0 ≤ x ∧ x < 16777216) (k : Nat) (hk : k < 4) :
    imm_Back_L1 ⟨if f then 1 else 0, s, u, x, k⟩ = imm_Back_L1 ⟨if f then 1 else 0, s, u, x * 256 + (if k = s then u else fb f), (k : Int) - 1⟩ := by
  rw [imm_Back_L1.eq ⟨if f then 1 else 0, s, u, x, k⟩]; unfold imm_Back_L1_b
  have c1 : decide ((k : Int) ≥ 0) = true := decide_eq_true (by omega)
  have e1 : w64 ((k : Int) - 1) = (k : Int) - 1 := w64_in (by omega) (by omega)
  have e2 : andI .i64 u 255 = u := by rw [andI_255]; omega
  have c2 : ((k : Int) == (s : Int)) = decide (k = s) := by rw [Bool.eq_iff_iff, beq_iff_eq, decide_eq_true_iff]; omega
  simp only
  rw [c1, cond_true, e1, e2, c2, or_byte hx hu, or_byte hx (b := 255) (by decide), or_byte hx (b := 0) (by decide)]
  cases f with
  | true =>
    rw [show ((if true = true then (1 : Int) else 0) == 1) = true from rfl, cond_true]
    by_cases h : k = s
    · rw [decide_eq_true h, cond_true, if_pos h]; rfl
    · rw [decide_eq_false h, cond_false, if_neg h]; rfl
  | false =>
    rw [show ((if false = true then (1 : Int) else 0) == 1) = false from rfl, cond_false]
    by_cases h : k = s
    · rw [decide_eq_true h, cond_true, if_pos h]; rfl
    · rw [decide_eq_false h, cond_false, if_neg h]; rfl
theorem fb_byt (f : Bool) : byt (fb f) := by cases f <;> decide
theorem back_eq (f : Bool) (s : Nat) {u : Int} (hu : byt u) : imm_Back (if f then 1 else 0) s u = some (sgn32 (bk f s u)) := by
  have hf := fb_byt f
  have hb : ∀ k : Nat, byt (if k = s then u else fb f) := fun k => by split <;> assumption
  have h3 := hb 3
  have h2 := hb 2
  have h1 := hb 1
  have h0 := hb 0
  have e : bk f s u = pk4 (if 3 = s then u else fb f) (if 2 = s then u else fb f) (if 1 = s then u else fb f) (if 0 = s then u else fb f) := by
    unfold bk; simp only [eq_comm (a := s)]
  rw [e]
  rw [imm_Back.eq]; unfold imm_Back_b
  have s3 := back_step f s hu (x := 0) (by omega) 3 (by omega)
  rw [show (⟨if f then 1 else 0, (s : Int), u, 0, ((3 : Nat) : Int)⟩ : imm_Back_L1_A) = ⟨if f then 1 else 0, (s : Int), u, 0, 3⟩ from rfl] at s3
  rw [s3]
  generalize (if 3 = s then u else fb f) = b3 at h3
  rw [show (((3 : Nat) : Int) - 1) = ((2 : Nat) : Int) from rfl, back_step f s hu (by omega) 2 (by omega)]
  generalize (if 2 = s then u else fb f) = b2 at h2
  rw [show (((2 : Nat) : Int) - 1) = ((1 : Nat) : Int) from rfl, back_step f s hu (by omega) 1 (by omega)]
  generalize (if 1 = s then u else fb f) = b1 at h1
  rw [show (((1 : Nat) : Int) - 1) = ((0 : Nat) : Int) from rfl, back_step f s hu (by omega) 0 (by omega)]
  generalize (if 0 = s then u else fb f) = b0 at h0
  rw [imm_Back_L1.eq]; unfold imm_Back_L1_b
  have c1 : decide (((0 : Nat) : Int) - 1 ≥ 0) = false := rfl
  simp only
  rw [c1, cond_false]
  simp only [Option.bind_some, Sum.elim_inr]
  rw [show (((0 * 256 + b3) * 256 + b2) * 256 + b1) * 256 + b0 = pk4 b3 b2 b1 b0 from by unfold pk4; omega, sign32 (by unfold pk4; omega) (by unfold pk4; omega)]; rfl
theorem sgn_inj {x y : Int} (hx : 0 ≤ x ∧ x < 4294967296) (hy : 0 ≤ y ∧ y < 4294967296) (h : sgn32 x = sgn32 y) : x = y := by
  unfold sgn32 at h; split at h <;> split at h <;> omega
theorem found_eq (v : Int) (f : Bool) (s : Nat) : ∃ r, imm_found v ⟨if f then 1 else 0, s⟩ = some r ∧ ((0 ≤ r ∧ ∃ u, byt u ∧ sgn32 (bk f s u) = v) ∨ (r = -1 ∧ ∀ u, byt u → sgn32 (bk f s u) ≠ v)) := by
  obtain ⟨r, h1, h2⟩ := loop_ind imm_found_L1.eq (fun a => ∃ i : Nat, i ≤ 256 ∧ a = ⟨v, ⟨if f then 1 else 0, s⟩, i⟩ ∧ ∀ j : Nat, j < i → sgn32 (bk f s j) ≠ v)
    (fun _ r => (∃ i : Nat, i < 256 ∧ r = .inl (i : Int) ∧ sgn32 (bk f s i) = v) ∨ (r = .inr () ∧ ∀ j : Nat, j < 256 → sgn32 (bk f s j) ≠ v)) (fun a => 256 - a.x6.toNat) (by
    rintro a ⟨i, hi, rfl, hq⟩
    unfold imm_found_L1_b
    simp only
    by_cases h : i < 256
    · have c1 : decide ((i : Int) < 256) = true := decide_eq_true (by omega)
      have hb := back_eq f s (u := (i : Int)) ⟨by omega, by omega⟩
      rw [c1, cond_true, imm_form_of.eq]; unfold imm_form_of_b
      simp only
      rw [hb]
      simp only [Option.bind_some]
      by_cases he : sgn32 (bk f s i) = v
      · refine .inr ⟨.inl (i : Int), ?_, .inl ⟨i, h, rfl, he⟩⟩
        rw [beq_iff_eq.2 he]; rfl
      · refine .inl ⟨⟨v, ⟨if f then 1 else 0, s⟩, (i + 1 : Nat)⟩, ?_, ⟨i + 1, by omega, rfl, fun j hj => ?_⟩, by simp only [Int.toNat_natCast]; omega, fun r hr => hr⟩
        · rw [beq_eq_false_iff_ne.2 he, cond_false, w64_in (n := (i : Int) + 1) (by omega) (by omega)]; rfl
        · rcases Nat.lt_or_ge j i with h' | h'
          · exact hq j h'
          · obtain rfl : j = i := by omega
            exact he
    · have c1 : decide ((i : Int) < 256) = false := decide_eq_false (by omega)
      obtain rfl : i = 256 := by omega
      exact .inr ⟨.inr (), by rw [c1]; rfl, .inr ⟨rfl, hq⟩⟩) ⟨v, ⟨if f then 1 else 0, s⟩, 0⟩ ⟨0, by omega, rfl, fun j hj => by omega⟩
  rw [imm_found.eq]; unfold imm_found_b
  rw [h1]
  rcases h2 with ⟨i, hi, rfl, he⟩ | ⟨rfl, hn⟩
  · exact ⟨i, rfl, .inl ⟨by omega, i, ⟨by omega, by omega⟩, he⟩⟩
  · refine ⟨-1, rfl, .inr ⟨rfl, fun u hu => ?_⟩⟩
    obtain ⟨j, rfl⟩ := Int.eq_ofNat_of_zero_le hu.1
    exact hn j (by omega)
def forms8 : List (Bool × Nat) := [(false, 0), (false, 1), (false, 2), (false, 3), (true, 0), (true, 1), (true, 2), (true, 3)]
theorem forms_eq : imm_forms = some (forms8.map fun p => ⟨if p.1 then 1 else 0, (p.2 : Int)⟩) := by rw [imm_forms.eq]; rfl
theorem sci8_eq (v : Int) : ∃ r, imm_Sci8 v = some r ∧ (r.2.2.2 = true ↔ ∃ p ∈ forms8, ∃ u, byt u ∧ sgn32 (bk p.1 p.2 u) = v) := by
  obtain ⟨r, h1, h2⟩ := loop_ind imm_Sci8_L1.eq (fun a => ∃ i : Nat, i ≤ 8 ∧ a = ⟨v, forms8.map fun p => ⟨if p.1 then 1 else 0, (p.2 : Int)⟩, 8, i⟩ ∧ ∀ p ∈ forms8.take i, ∀ u, byt u → sgn32 (bk p.1 p.2 u) ≠ v)
    (fun _ r => (∃ o, r = .inl o ∧ o.x5 = true ∧ ∃ p ∈ forms8, ∃ u, byt u ∧ sgn32 (bk p.1 p.2 u) = v) ∨ (r = .inr () ∧ ∀ p ∈ forms8, ∀ u, byt u → sgn32 (bk p.1 p.2 u) ≠ v)) (fun a => 8 - a.x10.toNat) (by
    rintro a ⟨i, hi, rfl, hq⟩
    unfold imm_Sci8_L1_b
    simp only
    have hlen : forms8.length = 8 := rfl
    by_cases h : i < 8
    · have c1 : decide ((i : Int) < 8) = true := decide_eq_true (by omega)
      have c2 : decide (0 ≤ (i : Int)) = true := decide_eq_true (by omega)
      have h' : i < forms8.length := by omega
      obtain ⟨r, e1, e2⟩ := found_eq v forms8[i].1 forms8[i].2
      rw [c1, cond_true, c2, cond_true, Int.toNat_natCast, List.getElem?_map, List.getElem?_eq_getElem h', Option.map_some, Option.bind_some, e1, Option.bind_some]
      rcases e2 with ⟨e2, e3⟩ | ⟨rfl, e3⟩
      · rw [decide_eq_true (show r ≥ 0 from e2)]
        exact .inr ⟨_, rfl, .inl ⟨_, rfl, rfl, forms8[i], List.getElem_mem h', e3⟩⟩
      · refine .inl ⟨⟨v, forms8.map fun p => ⟨if p.1 then 1 else 0, (p.2 : Int)⟩, 8, (i + 1 : Nat)⟩, ?_, ⟨i + 1, by omega, rfl, fun p hp => ?_⟩, by simp only [Int.toNat_natCast]; omega, fun r hr => hr⟩
        · rw [show decide ((-1 : Int) ≥ 0) = false from rfl, cond_false, w64_in (n := (i : Int) + 1) (by omega) (by omega)]; rfl
        · rw [List.take_succ_eq_append_getElem h', List.mem_append] at hp
          rcases hp with hp | hp
          · exact hq p hp
          · simp only [List.mem_singleton] at hp; subst hp; exact e3
    · have c1 : decide ((i : Int) < 8) = false := decide_eq_false (by omega)
      rw [List.take_of_length_le (by omega)] at hq
      exact .inr ⟨_, by rw [c1]; rfl, .inr ⟨rfl, hq⟩⟩) ⟨v, forms8.map fun p => ⟨if p.1 then 1 else 0, (p.2 : Int)⟩, 8, 0⟩ ⟨0, by omega, rfl, fun p hp => by simp at hp⟩
  rw [imm_Sci8.eq]; unfold imm_Sci8_b
  rw [forms_eq, Option.bind_some]
  have e0 : imm_Sci8_L1 ⟨v, forms8.map fun p => ⟨if p.1 then 1 else 0, (p.2 : Int)⟩, (((forms8.map fun p => (⟨if p.1 then 1 else 0, (p.2 : Int)⟩ : T_imm_form)).length : Nat) : Int), 0⟩ = some r := h1
  rw [e0, Option.bind_some]
  rcases h2 with ⟨o, rfl, ho, h⟩ | ⟨rfl, h⟩
  · exact ⟨_, rfl, by simp only [Sum.elim_inl]; rw [ho]; exact ⟨fun _ => h, fun _ => rfl⟩⟩
  · refine ⟨_, rfl, ⟨fun e => (nomatch e), fun ⟨p, hp, u, hu, e⟩ => absurd e (h p hp u hu)⟩⟩
end Go.Ab
set_option maxRecDepth 100000
namespace Go.Ab
def Tot {α : Type} (Q : α → Prop) (x : Option α) : Prop := ∃ r, x = some r ∧ Q r
theorem Tot.some {α : Type} {Q : α → Prop} {a : α} (h : Q a) : Tot Q (some a) := ⟨a, rfl, h⟩
theorem Tot.cond {α : Type} {Q : α → Prop} {b : Bool} {x y : Option α} (h1 : Tot Q x) (h2 : Tot Q y) : Tot Q (bif b then x else y) := by cases b <;> assumption
theorem Tot.condT {α : Type} {Q : α → Prop} {b : Bool} {x y : Option α} (h : b = true) (h1 : Tot Q x) : Tot Q (bif b then x else y) := by subst h; exact h1
theorem Tot.bind {α β : Type} {R : α → Prop} {Q : β → Prop} {x : Option α} {f : α → Option β} (h : Tot R x) (hf : ∀ a, R a → Tot Q (f a)) : Tot Q (x.bind f) := by
  obtain ⟨r, rfl, hr⟩ := h; exact hf r hr
theorem Tot.mono {α : Type} {Q R : α → Prop} {x : Option α} (h : Tot Q x) (hq : ∀ a, Q a → R a) : Tot R x := by obtain ⟨r, e, h⟩ := h; exact ⟨r, e, hq r h⟩
def plainOk (r : T_isa_plain × Bool) : Prop := 0 ≤ r.1.at_ ∧ 0 ≤ r.1.bits ∧ (r.2 = true → r.1.step ≠ 0)
theorem plains_tot (e : ByteArray) : Tot plainOk (isa_plains e) := by
  rw [isa_plains.eq]; unfold isa_plains_b
  repeat (refine Tot.cond (Tot.some ⟨by decide, by decide, by decide⟩) ?_)
  exact .some ⟨by decide, by decide, fun h => nomatch h⟩
theorem plain_get_tot (p : T_isa_plain) (w : Int) (h1 : 0 ≤ p.at_) (h2 : 0 ≤ p.bits) : Tot (fun _ => True) (isa_plain_get p w) := by
  rw [isa_plain_get.eq]; unfold isa_plain_get_b; exact .condT (decide_eq_true h1) (.condT (decide_eq_true h2) (.some trivial))
theorem plain_put_tot (p : T_isa_plain) (v : Int) (h1 : 0 ≤ p.at_) (h2 : 0 ≤ p.bits) (h3 : p.step ≠ 0) : Tot (fun _ => True) (isa_plain_put p v) := by
  rw [isa_plain_put.eq]; unfold isa_plain_put_b
  exact .cond (.some trivial) (.condT (decide_eq_true h2) (.cond (.some trivial) (.condT (decide_eq_true h3) (.cond (.some trivial) (.condT (decide_eq_true h1) (.some trivial))))))
theorem place_tot (e : ByteArray) : Tot (fun r => 0 ≤ r) (isa_place e) := by
  rw [isa_place.eq]; unfold isa_place_b; exact .cond (.some (by decide)) (.some (by decide))
theorem wide_tot (e : ByteArray) : Tot (fun r => r = 9 ∨ r = 25 ∨ r = 16) (isa_wide e) := by
  rw [isa_wide.eq]; unfold isa_wide_b; exact .cond (.some (.inl rfl)) (.cond (.some (.inr (.inl rfl))) (.some (.inr (.inr rfl))))
theorem sign_tot (v b : Int) (h : b = 9 ∨ b = 25 ∨ b = 16 ∨ b = 20 ∨ b = 8) : Tot (fun _ => True) (imm_Sign v b) := by
  rw [imm_Sign.eq]; unfold imm_Sign_b
  exact .condT (by rcases h with rfl | rfl | rfl | rfl | rfl <;> decide) (.some trivial)
theorem fits_tot (v b : Int) (h : b = 9 ∨ b = 25 ∨ b = 16 ∨ b = 20) : Tot (fun _ => True) (imm_Fits v b) := by
  show Tot _ (fitsS v b)
  unfold fitsS
  rcases h with rfl | rfl | rfl | rfl <;> exact .some trivial
theorem andI_1 (x : Int) : andI .i64 x 1 = x % 2 := by
  have e : andI .i64 x 1 = w64 ((Ui x &&& Ui 1 : Nat) : Int) := by
    show IntKind.i64.wrap _ = IntKind.i64.wrap _
    rw [← BitVec.toNat_and]; rfl
  have h1 : Ui 1 = 2 ^ 1 - 1 := by decide
  rw [e, h1, Nat.and_two_pow_sub_one_eq_mod]
  have := Ui_eq x
  rw [w64_in (by omega) (by omega)]; omega
theorem andI_3 (x : Int) : andI .i64 x 3 = x % 4 := by
  have e : andI .i64 x 3 = w64 ((Ui x &&& Ui 3 : Nat) : Int) := by
    show IntKind.i64.wrap _ = IntKind.i64.wrap _
    rw [← BitVec.toNat_and]; rfl
  have h1 : Ui 3 = 2 ^ 2 - 1 := by decide
  rw [e, h1, Nat.and_two_pow_sub_one_eq_mod]
  have := Ui_eq x
  rw [w64_in (by omega) (by omega)]; omega
theorem back_tot (x y z : Int) : Tot (fun _ => True) (imm_Back (andI .i64 x 1) (andI .i64 y 3) (andI .i64 z 255)) := by
  rw [andI_1, andI_3, andI_255]
  have h := back_eq (decide (x % 2 = 1)) (y % 4).toNat (u := z % 256) ⟨by omega, by omega⟩
  have e1 : (if decide (x % 2 = 1) = true then (1 : Int) else 0) = x % 2 := by
    by_cases h : x % 2 = 1
    · rw [decide_eq_true h]; simp [h]
    · rw [decide_eq_false h]; simp; omega
  rw [e1, Int.toNat_of_nonneg (by omega)] at h
  exact ⟨_, h, trivial⟩
theorem get_tot (e : ByteArray) (w : Int) : Tot (fun _ => True) (isa_get e w) := by
  rw [isa_get.eq]; unfold isa_get_b
  refine (plains_tot e).bind fun r hr => .cond ((plain_get_tot _ _ hr.1 hr.2.1).bind fun _ _ => .some trivial) ?_
  refine .cond ((place_tot e).bind fun r hr => .condT (decide_eq_true hr) (.some trivial)) ?_
  refine .cond ((place_tot e).bind fun r hr => .condT (decide_eq_true hr) (.some trivial)) ?_
  refine .cond (Tot.bind (R := fun _ => True) ?_ fun _ _ => .some trivial) ?_
  · rw [imm_Joined.eq]; unfold imm_Joined_b
    exact (sign_tot _ 20 (.inr (.inr (.inr (.inl rfl))))).bind fun _ _ => .some trivial
  refine .cond ((back_tot _ _ _).bind fun _ _ => .some trivial) ?_
  refine .cond ((sign_tot _ 16 (.inr (.inr (.inl rfl)))).bind fun _ _ => .some trivial) ?_
  refine .cond ((sign_tot _ 8 (.inr (.inr (.inr (.inr rfl))))).bind fun _ _ => .some trivial) ?_
  refine (wide_tot e).bind fun r hr => (sign_tot _ r ?_).bind fun _ _ => .some trivial
  rcases hr with h | h | h <;> simp [h]
theorem put_tot (e : ByteArray) (v : Int) : Tot (fun _ => True) (isa_put e v) := by
  rw [isa_put.eq]; unfold isa_put_b
  refine (plains_tot e).bind fun r hr => ?_
  cases hb : r.2 with
  | true =>
    rw [cond_true]
    exact (plain_put_tot _ _ hr.1 hr.2.1 (hr.2.2 hb)).bind fun _ _ => .some trivial
  | false =>
    rw [cond_false]
    refine .cond (.cond (.some trivial) (.cond (.cond (.some trivial) (.cond (.some trivial) ((place_tot e).bind fun r hr => .condT (decide_eq_true hr) (.some trivial)))) (.cond (.some trivial) ((place_tot e).bind fun r hr => .condT (decide_eq_true hr) (.some trivial))))) ?_
    refine .cond (.cond (.some trivial) (.cond (.cond (.some trivial) (.cond (.some trivial) ((place_tot e).bind fun r hr => .condT (decide_eq_true hr) (.some trivial)))) (.cond (.some trivial) ((place_tot e).bind fun r hr => .condT (decide_eq_true hr) (.some trivial))))) ?_
    refine .cond ?_ ?_
    · rw [imm_Split.eq]; unfold imm_Split_b
      exact (fits_tot v 20 (.inr (.inr (.inr rfl)))).bind fun _ _ => .some trivial
    refine .cond ?_ ?_
    · obtain ⟨r, e1, _⟩ := sci8_eq v
      rw [e1]; exact .some trivial
    refine .cond ((fits_tot v 16 (.inr (.inr (.inl rfl)))).bind fun _ _ => .some trivial) ?_
    refine .cond (.some trivial) ((wide_tot e).bind fun r hr => (fits_tot v r ?_).bind fun _ _ => .cond (.some trivial) (.cond (.some trivial) ((wide_tot e).bind fun r hr => .condT (decide_eq_true ?_) (.some trivial))))
    · rcases hr with h | h | h <;> simp [h]
    · rcases hr with h | h | h <;> omega
end Go.Ab
set_option maxRecDepth 100000
namespace Go.Ab
def opOk (i : Nat) : Bool := match isa_Name.s 2000 i, isa_of_2.s 2000 i, isa_of_3.s 2000 i, isa_Size.s 2000 i with
  | some n, some c, some k, some s => decide (k.length ≤ 8)
  | _, _, _, _ => false
theorem ops_all : ((List.range 66).all opOk) = true := by kernel_rfl
theorem table_66 : ∃ t, isa_table = some t ∧ t.length = 66 := by
  rw [isa_table.eq]; exact ⟨_, rfl, by kernel_rfl⟩
theorem op_ok {i : Nat} (h : i < 66) : ∃ n c k s, isa_Name i = some n ∧ isa_of_2 i = some c ∧ isa_of_3 i = some k ∧ isa_Size i = some s ∧ k.length ≤ 8 := by
  have h := List.all_eq_true.1 ops_all i (List.mem_range.2 h)
  unfold opOk at h
  split at h
  · rename_i n c k s h1 h2 h3 h4
    exact ⟨n, c, k, s, cv_some (isa_Name.cv _) _ h1, cv_some (isa_of_2.cv _) _ h2, cv_some (isa_of_3.cv _) _ h3, cv_some (isa_Size.cv _) _ h4, of_decide_eq_true h⟩
  · cases h
theorem code_tot {x : T_api_Inst} {i : Nat} (hi : i < 66) (hx : x.Op = i) : Tot (fun _ => True) (isa_code x) := by
  obtain ⟨n, c, k, s, h1, h2, h3, h4, h5⟩ := op_ok hi
  rw [isa_code.eq]; unfold isa_code_b
  rw [hx, h1, Option.bind_some]
  refine .cond (.some trivial) ?_
  rw [h2, Option.bind_some, h3, Option.bind_some]
  by_cases hl : k.length = x.F.length
  rotate_left
  · rw [show ((k.length : Int) != (x.F.length : Int)) = true by rw [bne_iff_ne]; omega]; exact .some trivial
  refine .cond (.some trivial) ?_
  obtain ⟨r, e, _⟩ := loop_ind (isa_code_L1.eq) (fun a => ∃ (c : Int) (j : Nat), j ≤ k.length ∧ a = ⟨c, k, k.length, j, x⟩) (fun _ _ => True) (fun a => k.length - a.x28.toNat) (by
    rintro a ⟨c, j, hj, rfl⟩
    unfold isa_code_L1_b
    simp only
    by_cases h : j < k.length
    · rw [show decide ((j : Int) < k.length) = true from decide_eq_true (by omega), cond_true, show decide (0 ≤ (j : Int)) = true from decide_eq_true (by omega), cond_true, Int.toNat_natCast, List.getElem?_eq_getElem h, Option.bind_some, List.getElem?_eq_getElem (show j < x.F.length by omega), Option.bind_some]
      obtain ⟨r, e, _⟩ := put_tot k[j] (x.F[j]'(by omega))
      rw [e, Option.bind_some]
      cases r.2 with
      | false => exact .inr ⟨_, rfl, trivial⟩
      | true => exact .inl ⟨⟨orI .u32 c r.1, k, k.length, (j + 1 : Nat), x⟩, by rw [w64_in (n := (j : Int) + 1) (by omega) (by omega)]; rfl, ⟨_, j + 1, by omega, rfl⟩, by simp only [Int.toNat_natCast]; omega, fun _ _ => trivial⟩
    · rw [show decide ((j : Int) < k.length) = false from decide_eq_false (by omega)]
      exact .inr ⟨_, rfl, trivial⟩) ⟨c, k, k.length, 0, x⟩ ⟨c, 0, by omega, rfl⟩
  rw [e, Option.bind_some]
  cases r with
  | inl o => exact .some trivial
  | inr o => exact .some trivial
theorem L1_tot (n : Int) (l : List Int) (hl : l.length ≤ 4) (h0 : T_api_Inst) : Tot (fun o => o.x3 = n ∧ o.h0 = h0) (isa_Decode_L1 ⟨n, 0, l, l.length, 0, h0⟩) := by
  obtain ⟨r, e, h⟩ := loop_ind (isa_Decode_L1.eq) (fun a => ∃ (c : Int) (j : Nat), j ≤ l.length ∧ a = ⟨n, c, l, l.length, j, h0⟩) (fun _ o => o.x3 = n ∧ o.h0 = h0) (fun a => l.length - a.x35.toNat) (by
    rintro a ⟨c, j, hj, rfl⟩
    unfold isa_Decode_L1_b
    simp only
    by_cases h : j < l.length
    · rw [show decide ((j : Int) < l.length) = true from decide_eq_true (by omega), cond_true, show decide (0 ≤ (j : Int)) = true from decide_eq_true (by omega), cond_true, Int.toNat_natCast, List.getElem?_eq_getElem h, Option.bind_some]
      exact .inl ⟨⟨n, orI .u32 (shlI .u32 c 8) (IntKind.u32.wrap l[j]), l, l.length, (j + 1 : Nat), h0⟩, by rw [w64_in (n := (j : Int) + 1) (by omega) (by omega)]; rfl, ⟨_, j + 1, by omega, rfl⟩, by simp only [Int.toNat_natCast]; omega, fun _ h => h⟩
    · rw [show decide ((j : Int) < l.length) = false from decide_eq_false (by omega)]
      exact .inr ⟨_, rfl, rfl, rfl⟩) ⟨n, 0, l, l.length, 0, h0⟩ ⟨0, 0, by omega, rfl⟩
  exact ⟨r, e, h⟩
theorem L3_tot (n u len op : Int) (ks : List ByteArray) (hk : ks.length ≤ 8) (h0 : T_api_Inst) :
    Tot (fun o => o.x3 = n ∧ o.x5 = u ∧ o.x46 = len ∧ o.x47 = op ∧ o.h0 = h0 ∧ o.h1.Op = op ∧ o.h1.F.length ≤ 8) (isa_Decode_L3 ⟨n, u, len, op, ks, ks.length, 0, h0, ⟨op, []⟩⟩) := by
  obtain ⟨r, e, h⟩ := loop_ind (isa_Decode_L3.eq) (fun a => ∃ (F : List Int) (j : Nat), j ≤ ks.length ∧ F.length = j ∧ a = ⟨n, u, len, op, ks, ks.length, j, h0, ⟨op, F⟩⟩) (fun _ o => o.x3 = n ∧ o.x5 = u ∧ o.x46 = len ∧ o.x47 = op ∧ o.h0 = h0 ∧ o.h1.Op = op ∧ o.h1.F.length ≤ 8) (fun a => ks.length - a.x59.toNat) (by
    rintro a ⟨F, j, hj, hF, rfl⟩
    unfold isa_Decode_L3_b
    simp only
    by_cases h : j < ks.length
    · rw [show decide ((j : Int) < ks.length) = true from decide_eq_true (by omega), cond_true, show decide (0 ≤ (j : Int)) = true from decide_eq_true (by omega), cond_true, Int.toNat_natCast, List.getElem?_eq_getElem h, Option.bind_some]
      obtain ⟨r, e, _⟩ := get_tot ks[j] u
      rw [e, Option.bind_some, show decide ((F.length + [r].length) * 8 ≤ most) = true from decide_eq_true (by simp only [List.length_singleton, most]; omega), cond_true]
      exact .inl ⟨⟨n, u, len, op, ks, ks.length, (j + 1 : Nat), h0, ⟨op, F ++ [r]⟩⟩, by rw [w64_in (n := (j : Int) + 1) (by omega) (by omega)]; rfl, ⟨F ++ [r], j + 1, by omega, by simp [hF], rfl⟩, by simp only [Int.toNat_natCast]; omega, fun _ h => h⟩
    · rw [show decide ((j : Int) < ks.length) = false from decide_eq_false (by omega)]
      exact .inr ⟨_, rfl, rfl, rfl, rfl, rfl, rfl, rfl, by show F.length ≤ 8; omega⟩) ⟨n, u, len, op, ks, ks.length, 0, h0, ⟨op, []⟩⟩ ⟨[], 0, by omega, rfl, rfl⟩
  exact ⟨r, e, h⟩
abbrev z0I : T_api_Inst := ⟨0, []⟩
theorem L2_tot (n u : Int) : ∃ r, isa_Decode_L2 ⟨n, u, 66, 0, z0I⟩ = some r ∧ ((∃ o, r = .inl o ∧ o.x3 = n ∧ o.x4 = true ∧ isa_Size o.h0.Op = some n) ∨ ∃ o, r = .inr o) := by
  obtain ⟨r, e, h⟩ := loop_ind (isa_Decode_L2.eq) (fun a => ∃ (j : Nat), j ≤ 66 ∧ a = ⟨n, u, 66, j, z0I⟩) (fun _ r => (∃ o, r = .inl o ∧ o.x3 = n ∧ o.x4 = true ∧ isa_Size o.h0.Op = some n) ∨ ∃ o, r = .inr o) (fun a => 66 - a.x47.toNat) (by
    rintro a ⟨j, hj, rfl⟩
    have next : isa_Decode_L2_A.mk n u 66 (w64 ((j : Int) + 1)) z0I = isa_Decode_L2_A.mk n u 66 ((j + 1 : Nat) : Int) z0I := by rw [w64_in (n := (j : Int) + 1) (by omega) (by omega)]; rfl
    unfold isa_Decode_L2_b
    simp only
    by_cases h : j < 66
    · obtain ⟨nm, c, k, s, h1, h2, h3, h4, h5⟩ := op_ok h
      have go : ∀ (h : j < 66), (∃ j' : Nat, j' ≤ 66 ∧ isa_Decode_L2_A.mk n u 66 ((j + 1 : Nat) : Int) z0I = ⟨n, u, 66, j', z0I⟩) ∧ (66 - ((j + 1 : Nat) : Int).toNat < 66 - ((j : Nat) : Int).toNat) := fun h => ⟨⟨j + 1, by omega, rfl⟩, by simp only [Int.toNat_natCast]; omega⟩
      rw [show decide ((j : Int) < 66) = true from decide_eq_true (by omega), cond_true, h4, Option.bind_some]
      by_cases hs : s = n
      rotate_left
      · rw [show (s != n) = true by rw [bne_iff_ne]; exact hs, cond_true, next]
        exact .inl ⟨_, rfl, (go h).1, (go h).2, fun _ h => h⟩
      · rw [show (s != n) = false by rw [hs]; exact bne_self_eq_false n, cond_false, h3, Option.bind_some]
        obtain ⟨o, e, q1, q2, q3, q4, q5, q6, q7⟩ := L3_tot n u 66 j k h5 z0I
        rw [e, Option.bind_some]
        obtain ⟨r, e2, _⟩ := code_tot h q6
        rw [e2, Option.bind_some, q1, q2, q3, q4, q5, next]
        cases r.2 with
        | false => exact .inl ⟨_, rfl, (go h).1, (go h).2, fun _ h => h⟩
        | true =>
          rw [cond_true]
          by_cases hc : r.1 = u
          · rw [show (r.1 == u) = true from beq_iff_eq.2 hc, cond_true]
            have ec : slices_Clone_2 o.h1.F = some o.h1.F := by
              show cloneB 8 _ = _
              exact if_pos (by omega)
            rw [ec, Option.bind_some]
            exact .inr ⟨_, rfl, .inl ⟨_, rfl, rfl, rfl, by show isa_Size o.h1.Op = _; rw [q6, h4, hs]⟩⟩
          · rw [show (r.1 == u) = false from beq_eq_false_iff_ne.2 hc, cond_false]
            exact .inl ⟨_, rfl, (go h).1, (go h).2, fun _ h => h⟩
    · rw [show decide ((j : Int) < 66) = false from decide_eq_false (by omega)]
      exact .inr ⟨_, rfl, .inr ⟨_, rfl⟩⟩) ⟨n, u, 66, 0, z0I⟩ ⟨0, by omega, rfl⟩
  exact ⟨r, e, h⟩
theorem decode_tot {l : List Int} {a : Int} {n : Nat} (hl : l[0]? = some a) (hs : isa_size a = some (n : Int)) (hn : n = 2 ∨ n = 4) (h4 : n ≤ l.length) :
    ∃ r, isa_Decode l = some r ∧ ((r.2.2 = true ∧ r.2.1 = n ∧ isa_Size r.1.Op = some (n : Int)) ∨ (r.2.2 = false ∧ r.2.1 = 0 ∧ r.1 = z0I)) := by
  rw [isa_Decode.eq]; unfold isa_Decode_b
  rw [show decide ((l.length : Int) < 2) = false from decide_eq_false (by omega), cond_false, show Int.toNat 0 = 0 from rfl, hl, Option.bind_some, hs, Option.bind_some, show decide ((l.length : Int) < n) = false from decide_eq_false (by omega), cond_false, Option.bind_some, hs, Option.bind_some]
  rw [show decide (0 ≤ (0 : Int) ∧ 0 ≤ (n : Int) ∧ (n : Int) ≤ (l.length : Nat)) = true from decide_eq_true (by omega), cond_true]
  obtain ⟨o, e, q1, q2⟩ := L1_tot n ((l.drop 0).take ((n : Int) - 0).toNat) (by rw [List.length_take]; omega) z0I
  rw [e, Option.bind_some]
  obtain ⟨t, et, ht⟩ := table_66
  rw [et, Option.bind_some, ht, q1, q2]
  obtain ⟨r, e2, h⟩ := L2_tot n o.x5
  have e2' : isa_Decode_L2 ⟨(n : Int), o.x5, ((66 : Nat) : Int), 0, z0I⟩ = some r := e2
  rw [e2', Option.bind_some]
  rcases h with ⟨o, rfl, h1, h2, h3⟩ | ⟨o, rfl⟩
  · exact ⟨_, rfl, .inl ⟨h2, h1, h3⟩⟩
  · exact ⟨_, rfl, .inr ⟨rfl, rfl, rfl⟩⟩
/-- too few bytes -/
theorem decode_short {l : List Int} {a : Int} {n : Nat} (h2 : 2 ≤ l.length) (hl : l[0]? = some a) (hs : isa_size a = some (n : Int)) (h4 : l.length < n) : isa_Decode l = some (z0I, 0, false) := by
  rw [isa_Decode.eq]; unfold isa_Decode_b
  rw [show decide ((l.length : Int) < 2) = false from decide_eq_false (by omega), cond_false, show Int.toNat 0 = 0 from rfl, hl, Option.bind_some, hs, Option.bind_some, show decide ((l.length : Int) < n) = true from decide_eq_true (by omega), cond_true]
/-- what is behind does not matter -/
theorem decode_head {l m : List Int} {a : Int} {n : Nat} (hl : l[0]? = some a) (hm : m[0]? = some a) (hs : isa_size a = some (n : Int)) (hn : 2 ≤ n) (h4 : n ≤ l.length) (h5 : n ≤ m.length) (h : l.take n = m.take n) : isa_Decode l = isa_Decode m := by
  have f : ∀ l : List Int, l[0]? = some a → n ≤ l.length → isa_Decode l = ((isa_Decode_L1 ⟨n, 0, l.take n, (l.take n).length, 0, z0I⟩).bind fun o5 => isa_table.bind fun r6 => (isa_Decode_L2 ⟨o5.x3, o5.x5, r6.length, 0, o5.h0⟩).bind fun x => Sum.elim (fun (o7 : isa_Decode_L2_O0) => some (o7.h0, o7.x3, o7.x4)) (fun (o8 : T_api_Inst) => some (z0I, 0, false)) x) := by
    intro l hl h4
    rw [isa_Decode.eq]; unfold isa_Decode_b
    rw [show decide ((l.length : Int) < 2) = false from decide_eq_false (by omega), cond_false, show Int.toNat 0 = 0 from rfl, hl, Option.bind_some, hs, Option.bind_some, show decide ((l.length : Int) < n) = false from decide_eq_false (by omega), cond_false, Option.bind_some, hs, Option.bind_some]
    rw [show decide (0 ≤ (0 : Int) ∧ 0 ≤ (n : Int) ∧ (n : Int) ≤ (l.length : Nat)) = true from decide_eq_true (by omega), cond_true]
    rw [Int.sub_zero, Int.toNat_natCast, List.drop_zero]
  rw [f l hl h4, f m hm h5, h]
end Go.Ab
set_option maxRecDepth 100000
namespace Go.Ab
def longB (a : Int) : Bool := shrI .u8 a 4 == 1 || shrI .u8 a 4 == 3 || shrI .u8 a 4 == 5 || shrI .u8 a 4 == 7
theorem sizes_all : ((List.range 256).all fun a => (isa_size_b (a : Int)).isEqSome (if longB (a : Int) then 4 else 2)) = true := by kernel_rfl
theorem size_of {a : Int} (h0 : 0 ≤ a) (h1 : a < 256) : isa_size a = some (((if longB a then 4 else 2 : Nat) : Nat) : Int) := by
  obtain ⟨n, rfl⟩ := Int.eq_ofNat_of_zero_le h0
  have h := List.all_eq_true.1 sizes_all n (List.mem_range.2 (by omega))
  rw [isa_size.eq]
  cases e : isa_size_b (n : Int) with
  | none => rw [e] at h; cases h
  | some x =>
    rw [e] at h
    have : x = if longB (n : Int) then 4 else 2 := by simpa [Option.isEqSome] using h
    rw [this]; split <;> rfl
noncomputable def tailH (long : Bool) (r2 r3 : T_api_Inst × Int × Bool) : Option Bool :=
  bif (!r2.2.2) then (bif (r2.2.1 == (0 : Int)) then (bif (!r3.2.2) then (bif (r2.1.Op == (0 : Int)) then (some (((r2.1.F.length : Nat) : Int) == (0 : Int))) else (some false)) else (some false)) else (some false)) else (bif ((r2.2.1 == (4 : Int)) == long) then (bif ((r2.2.1 == (2 : Int)) == (!long)) then (bif (r3.2.2 == (!long)) then ((isa_Size r2.1.Op).bind fun (r4 : Int) => (some (r4 == r2.2.1))) else (some false)) else (some false)) else (some false))
theorem tail_true (a b c d : Int) (h0 : 0 ≤ a) (h1 : a < 256) : ∃ r2 r3, isa_Decode [a, b, c, d] = some r2 ∧ isa_Decode [a, b] = some r3 ∧ tailH (longB a) r2 r3 = some true := by
  have hs := size_of h0 h1
  generalize longB a = L at hs
  cases L with
  | true =>
    obtain ⟨r, e, h⟩ := decode_tot (l := [a, b, c, d]) (n := 4) rfl hs (.inr rfl) (by simp)
    have e2 := decode_short (l := [a, b]) (n := 4) (by simp) rfl hs (by simp)
    refine ⟨r, _, e, e2, ?_⟩
    unfold tailH
    rcases h with ⟨h1, h2, h3⟩ | ⟨h1, h2, h3⟩
    · rw [h1, h2, h3]; rfl
    · rw [h1, h2, h3]; rfl
  | false =>
    obtain ⟨r, e, h⟩ := decode_tot (l := [a, b, c, d]) (n := 2) rfl hs (.inl rfl) (by simp)
    have e2 : isa_Decode [a, b] = isa_Decode [a, b, c, d] := decode_head (n := 2) rfl rfl hs (by decide) (by simp) (by simp) rfl
    refine ⟨r, r, e, e2.trans e, ?_⟩
    unfold tailH
    rcases h with ⟨h1, h2, h3⟩ | ⟨h1, h2, h3⟩
    · rw [h1, h2, h3]; rfl
    · rw [h1, h2, h3]; rfl
theorem w2_IsaHalf_true (a b c d : Int) (wa : IntKind.u8.min ≤ a ∧ a ≤ IntKind.u8.max) (wb : IntKind.u8.min ≤ b ∧ b ≤ IntKind.u8.max) (wc : IntKind.u8.min ≤ c ∧ c ≤ IntKind.u8.max) (wd : IntKind.u8.min ≤ d ∧ d ≤ IntKind.u8.max) : w2_IsaHalf a b c d = some true := by
  have h0 : 0 ≤ a := wa.1
  have h1 : a < 256 := by have : a ≤ 255 := wa.2; omega
  obtain ⟨r2, r3, e2, e3, ht⟩ := tail_true a b c d h0 h1
  rw [w2_IsaHalf.eq]; unfold w2_IsaHalf_b
  rw [w2_known_true, Option.bind_some, e2, Option.bind_some]
  rw [show (!true) = false from rfl, cond_false]
  rw [show decide (0 ≤ (0 : Int) ∧ (0 : Int) ≤ 2 ∧ (2 : Int) ≤ (([a, b, c, d].length : Nat) : Int)) = true from decide_eq_true ⟨by decide, by decide, by show (2 : Int) ≤ ((4 : Nat) : Int); decide⟩, cond_true]
  rw [show (([a, b, c, d].drop (Int.toNat 0)).take (Int.toNat (2 - 0))) = [a, b] from rfl, e3, Option.bind_some]
  unfold longB at ht
  generalize (shrI .u8 a 4 == 1) = b1 at ht
  generalize (shrI .u8 a 4 == 3) = b3 at ht
  generalize (shrI .u8 a 4 == 5) = b5 at ht
  generalize (shrI .u8 a 4 == 7) = b7 at ht
  cases b1 with
  | true => exact ht
  | false =>
    cases b3 with
    | true => exact ht
    | false =>
      cases b5 with
      | true => exact ht
      | false => exact ht
end Go.Ab
namespace Go.Proofs.YticofbaajdgabaaDoor
open Go Go.Ab Go.ChangeShapes Go.WideShapes Go.ChangeAt Go.RowKit
open Go.ChangeMaps (open_string shut_string)
theorem repL_one {c : Ctx} {w : World} {a : AV} {v : Value} (h : RepL c w [a] [v]) : Rep c w a v := by cases h; assumption
theorem laidOut : laidOutB Tryd.prog = true := by kernel_rfl
theorem own : ownKnob Tryd.prog.godebug = none := by kernel_rfl
theorem door_met (os : Os) (args : Array Value) : laidMetH Tryd.prog [("unicode.White_Space", Rows.laid_unicode_White_Space), ("strings.asciiSpace", Rows.laid_strings_asciiSpace)] ((World.doorLaid Tryd.prog 33 os).forCall (fun _ _ => 0) ⟨#[], args, []⟩).memory :=
  laidMetH_of_parts3 (fuel := 8) (laidMet_of_run' 8 (by kernel_rfl) (by kernel_rfl)) (by kernel_rfl) (by kernel_rfl)
namespace isaHalf
set_option maxRecDepth 100000 in
theorem lifted (os : Os) (started : os.Started) (H : Type) (enc : TypeId × Value → H) :
    ReturnsInHanded {} Tryd.checked os 6 .any (fun w args => (Rows.isaHalfSpec.pre enc Tryd.prog Tryd.f6 [] false w args ∧ laidMetH Tryd.prog [("unicode.White_Space", Rows.laid_unicode_White_Space), ("strings.asciiSpace", Rows.laid_strings_asciiSpace)] w) ∧ sizedMet enc Tryd.prog Tryd.f6 (OpenSpec.ofChange Rows.isaHalfSpec) false w args) (Rows.isaHalfSpec.post enc Tryd.prog Tryd.f6 false true false false) := by
  refine returnsInHanded_of_change_and (C := Tryd.checked) (X := fun w _ => laidMetH Tryd.prog [("unicode.White_Space", Rows.laid_unicode_White_Space), ("strings.asciiSpace", Rows.laid_strings_asciiSpace)] w) (fun _ _ _ hh h => h.of_heap hh) own started (by kernel_rfl) Tryd.func6
    (ChangeSpec.witness_shaped (enc := enc) (C := Tryd.checked) (os := os) (X := fun w _ => laidMetH Tryd.prog [("unicode.White_Space", Rows.laid_unicode_White_Space), ("strings.asciiSpace", Rows.laid_strings_asciiSpace)] w) false (World.doorLaid Tryd.prog 33 os) #[.int .u8 0, .int .u8 0, .int .u8 0, .int .u8 0] 8 rfl (World.shaped_of_RefB (by kernel_rfl) (by kernel_rfl)) (by kernel_rfl) (by kernel_rfl) (by kernel_rfl) (door_met os _)) ?_
  intro W base args ds gs before hval0 hW hcnd hsz0 hL _
  have hT := told_of hL
  have hW' := hW
  obtain ⟨p, q, hA0, hV, rfl, hfz, hnd⟩ := hW
  have hA : DataW.TrodAll enc Tryd.prog W 0 (fun _ => true) true Tryd.f6.params.toList args.toList ds p := hA0
  rw [Tryd.params6] at hA
  obtain ⟨v0, vs0, d0, ds0, p0, q0, hargs, rfl, rfl, h0, r0⟩ := trodAll_cons hA
  obtain ⟨v1, vs1, d1, ds1, p1, q1, rfl, rfl, rfl, h1, r1⟩ := trodAll_cons r0
  obtain ⟨v2, vs2, d2, ds2, p2, q2, rfl, rfl, rfl, h2, r2⟩ := trodAll_cons r1
  obtain ⟨v3, vs3, d3, ds3, p3, q3, rfl, rfl, rfl, h3, r3⟩ := trodAll_cons r2
  obtain ⟨rfl, rfl, rfl⟩ := trodAll_nil r3
  obtain rfl : args = #[v0, v1, v2, v3] := by cases args; simp_all
  obtain ⟨rfl, rfl⟩ := trodVars_none hV
  obtain ⟨u0, rfl⟩ := okWide_int Tryd.underlying5 (hval0 0 5 v0 rfl rfl)
  obtain ⟨a0, w0, y0⟩ := rd_fuel (enc := enc) (P := Tryd.prog) (W := W) (fun fuel => (rd_int Tryd.underlying5 fuel)) h0
  replace y0 := repL_one (show RepL (oldCtx W) W [_] [_] from y0)
  obtain ⟨u1, rfl⟩ := okWide_int Tryd.underlying5 (hval0 1 5 v1 rfl rfl)
  obtain ⟨a1, w1, y1⟩ := rd_fuel (enc := enc) (P := Tryd.prog) (W := W) (fun fuel => (rd_int Tryd.underlying5 fuel)) h1
  replace y1 := repL_one (show RepL (oldCtx W) W [_] [_] from y1)
  obtain ⟨u2, rfl⟩ := okWide_int Tryd.underlying5 (hval0 2 5 v2 rfl rfl)
  obtain ⟨a2, w2, y2⟩ := rd_fuel (enc := enc) (P := Tryd.prog) (W := W) (fun fuel => (rd_int Tryd.underlying5 fuel)) h2
  replace y2 := repL_one (show RepL (oldCtx W) W [_] [_] from y2)
  obtain ⟨u3, rfl⟩ := okWide_int Tryd.underlying5 (hval0 3 5 v3 rfl rfl)
  obtain ⟨a3, w3, y3⟩ := rd_fuel (enc := enc) (P := Tryd.prog) (W := W) (fun fuel => (rd_int Tryd.underlying5 fuel)) h3
  replace y3 := repL_one (show RepL (oldCtx W) W [_] [_] from y3)
  obtain ⟨k, hk⟩ := w2_IsaHalf.run a0 a1 a2 a3 (w2_IsaHalf_true a0 a1 a2 a3 w0 w1 w2 w3)
  have lt0 : ∀ x ∈ p0, x.block < W.heap.size := by obtain ⟨m, hm⟩ := h0; exact DataW.trod_lt m _ _ _ hm
  have lt1 : ∀ x ∈ p1, x.block < W.heap.size := by obtain ⟨m, hm⟩ := h1; exact DataW.trod_lt m _ _ _ hm
  have lt2 : ∀ x ∈ p2, x.block < W.heap.size := by obtain ⟨m, hm⟩ := h2; exact DataW.trod_lt m _ _ _ hm
  have lt3 : ∀ x ∈ p3, x.block < W.heap.size := by obtain ⟨m, hm⟩ := h3; exact DataW.trod_lt m _ _ _ hm
  refine (calls_of_eval (T := told) (by kernel_rfl) ext_ok hk hT (.cons _ _ _ _ y0 (.cons _ _ _ _ y1 (.cons _ _ _ _ y2 (.cons _ _ _ _ y3 .nil))))).mono fun e W' ⟨he, bel⟩ => ?_
  subst he
  exact ⟨_, rfl, _, _, _, [], _, [], hW', trodAll_mk1 (shut_bool Tryd.underlying4 _), (trodAll_cons_mk (Below.trod laidOut (by kernel_rfl) (of_decide_eq_true (by kernel_rfl)) h0 bel lt0) (trodAll_cons_mk (Below.trod laidOut (by kernel_rfl) (of_decide_eq_true (by kernel_rfl)) h1 bel lt1) (trodAll_cons_mk (Below.trod laidOut (by kernel_rfl) (of_decide_eq_true (by kernel_rfl)) h2 bel lt2) (trodAll_cons_mk (Below.trod laidOut (by kernel_rfl) (of_decide_eq_true (by kernel_rfl)) h3 bel lt3) trodAll_mk0)))), rfl, bel.frame _, fun h => by cases h⟩
theorem over : Rows.isaHalfRow.holds Tryd.pinned (OpenSpec.ofChange Rows.isaHalfSpec) :=
  OpenClaim.holds_of_wide 6 Tryd.f6 rfl rfl rfl rfl rfl rfl rfl ⟨rfl, rfl, rfl, rfl, rfl⟩ rfl rfl rfl rfl rfl (by kernel_rfl) Tryd.func6 (by kernel_rfl)
    (of_decide_eq_true (by kernel_rfl)) (by unfold Func.isWrapper; first | (rw [if_pos (by decide +kernel)]; kernel_rfl) | (rw [if_neg (by decide +kernel)]; exact ⟨rfl, rfl⟩))
    (fun os started H enc _ => lifted os started H enc)
theorem proved : Rows.IsaHalfSaid := over
theorem card : Rows.IsaHalfCardSaid :=
  Claim7.holds_tied_plain_at .later [] [.listed, .data] true (true, "9e0941a3bed8b5483a3837efef2f762ae578b94fd63546c8948659d19f0475ca") false
    proved (fun _ h => by cases h) (by kernel_rfl) (fun _ h => by cases h) isaHalf_row_tie rfl ⟨rfl, rfl⟩ (by kernel_rfl) rfl
    (fun f fn hf hfn => by
      obtain rfl : f = 6 := Option.some.inj ((show Tryd.prog.funcNamed Tryd.f6.name = some 6 by kernel_rfl).symm.trans hf) |>.symm
      obtain rfl : fn = Tryd.f6 := (Option.some.inj (Tryd.func6.symm.trans hfn)).symm
      exact ⟨by kernel_rfl, fun j t ht => by
        rw [Tryd.params6] at ht
        have hm : t ∈ [5, 5, 5, 5] := by simpa using Array.mem_of_getElem? ht
        have hall : ([5, 5, 5, 5].all fun u => !Tryd.prog.wantsStandIn u) = true := by kernel_rfl
        exact (show Tryd.prog.wantsStandIn t = false by simpa using List.all_eq_true.1 hall t hm)⟩)
    (by kernel_rfl)
end isaHalf
/-- The row, under a short name, for the claim. -/
theorem isaHalf_holds : Rows.IsaHalfCardSaid := isaHalf.card
end Go.Proofs.YticofbaajdgabaaDoor
