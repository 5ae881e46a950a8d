/- How the seat's functions are those of my table. -/
import Derived.Test.YtbnlhmaedapjlaaGreatChecked
import Derived.Test.YtbnlhmaedapjlaaGreatWmProgClientNone
import Derived.Test.YtbnlhmaedapjlaaGreatWmMeth
set_option linter.all false
namespace Wm.Seat
open Wm Go Go.Proofs

def tab : Tab := { fn := [(3, 57), (6, 85), (5, 148), (8, 220), (14, 221), (9, 223), (11, 224), (12, 225), (13, 226), (7, 232), (10, 233), (31, 354), (36, 213), (32, 356), (33, 357), (34, 358), (158, 552), (35, 359), (52, 416), (75, 198), (48, 263), (72, 264), (74, 293), (73, 350), (54, 82), (55, 171), (53, 419), (56, 420), (57, 421), (58, 422), (67, 144), (66, 321), (68, 393), (59, 423), (60, 424), (61, 425), (62, 426), (63, 427), (64, 428), (65, 429), (69, 430), (70, 431), (181, 145), (159, 203), (107, 266), (108, 417), (71, 432), (83, 397), (45, 271), (82, 376), (102, 377), (103, 378), (105, 375), (104, 414), (84, 463), (88, 261), (85, 464), (86, 465), (87, 466), (148, 176), (161, 554), (90, 127), (89, 265), (91, 467), (173, 128), (92, 468), (93, 132), (175, 133), (94, 469), (183, 559), (96, 319), (95, 470), (97, 471), (160, 553), (99, 167), (98, 472), (100, 177), (182, 153), (109, 269), (125, 346), (126, 347), (101, 379), (121, 443), (124, 462), (114, 305), (115, 493), (117, 90), (116, 494), (177, 91), (150, 147), (149, 330), (151, 331), (162, 555), (163, 556), (118, 302), (153, 303), (154, 304), (174, 306), (119, 495), (157, 150), (156, 151), (146, 152), (176, 307), (127, 308), (120, 496), (130, 413), (123, 396), (122, 441), (128, 484), (178, 267), (179, 268), (152, 146), (155, 404), (164, 391), (165, 392), (166, 461), (167, 382), (168, 557), (129, 449), (180, 380), (171, 381), (169, 447), (170, 444), (172, 442)], ty := [(68, 181), (71, 387), (72, 388), (73, 389), (74, 115), (75, 126), (76, 144), (123, 47), (164, 484)], meth := [("Step", 0)] }

theorem c3 : comp Tryz.prog tab F.withylaw21_ClientNone.closed F.withylaw21_ClientNone_hs Tryz.f3 = some F.withylaw21_ClientNone := by kernel_rfl
theorem g3 : FnOk Tryz.prog tab prog (3, 57) := FnOk.of (by kernel_rfl) (by kernel_rfl) Tryz.func3 c3

theorem c6 : comp Tryz.prog tab F.withyref06_Right.closed F.withyref06_Right_hs Tryz.f6 = some F.withyref06_Right := by kernel_rfl
theorem g6 : FnOk Tryz.prog tab prog (6, 85) := FnOk.of (by kernel_rfl) (by kernel_rfl) Tryz.func6 c6

theorem c5 : comp Tryz.prog tab F.field_NewBook.closed F.field_NewBook_hs Tryz.f5 = some F.field_NewBook := by kernel_rfl
theorem g5 : FnOk Tryz.prog tab prog (5, 148) := FnOk.of (by kernel_rfl) (by kernel_rfl) Tryz.func5 c5

theorem c8 : comp Tryz.prog tab F.client_New.closed F.client_New_hs Tryz.f8 = some F.client_New := by kernel_rfl
theorem g8 : FnOk Tryz.prog tab prog (8, 220) := FnOk.of (by kernel_rfl) (by kernel_rfl) Tryz.func8 c8

theorem c14 : comp Tryz.prog tab F.withylaw21_awake.closed F.withylaw21_awake_hs Tryz.f14 = some F.withylaw21_awake := by kernel_rfl
theorem g14 : FnOk Tryz.prog tab prog (14, 221) := FnOk.of (by kernel_rfl) (by kernel_rfl) Tryz.func14 c14

theorem c9 : comp Tryz.prog tab F.client_Client_Begin.closed F.client_Client_Begin_hs Tryz.f9 = some F.client_Client_Begin := by kernel_rfl
theorem g9 : FnOk Tryz.prog tab prog (9, 223) := FnOk.of (by kernel_rfl) (by kernel_rfl) Tryz.func9 c9

theorem c11 : comp Tryz.prog tab F.client_Client_Step.closed F.client_Client_Step_hs Tryz.f11 = some F.client_Client_Step := by kernel_rfl
theorem g11 : FnOk Tryz.prog tab prog (11, 224) := FnOk.of (by kernel_rfl) (by kernel_rfl) Tryz.func11 c11

theorem c12 : comp Tryz.prog tab F.client_Client_Answer.closed F.client_Client_Answer_hs Tryz.f12 = some F.client_Client_Answer := by kernel_rfl
theorem g12 : FnOk Tryz.prog tab prog (12, 225) := FnOk.of (by kernel_rfl) (by kernel_rfl) Tryz.func12 c12

theorem c13 : comp Tryz.prog tab F.client_Client_Holds.closed F.client_Client_Holds_hs Tryz.f13 = some F.client_Client_Holds := by kernel_rfl
theorem g13 : FnOk Tryz.prog tab prog (13, 226) := FnOk.of (by kernel_rfl) (by kernel_rfl) Tryz.func13 c13

theorem c7 : comp Tryz.prog tab F.client_Client_Point.closed F.client_Client_Point_hs Tryz.f7 = some F.client_Client_Point := by kernel_rfl
theorem g7 : FnOk Tryz.prog tab prog (7, 232) := FnOk.of (by kernel_rfl) (by kernel_rfl) Tryz.func7 c7

theorem c10 : comp Tryz.prog tab F.client_Client_Busy.closed F.client_Client_Busy_hs Tryz.f10 = some F.client_Client_Busy := by kernel_rfl
theorem g10 : FnOk Tryz.prog tab prog (10, 233) := FnOk.of (by kernel_rfl) (by kernel_rfl) Tryz.func10 c10

theorem c31 : comp Tryz.prog tab F.root_NewTable.closed F.root_NewTable_hs Tryz.f31 = some F.root_NewTable := by kernel_rfl
theorem g31 : FnOk Tryz.prog tab prog (31, 354) := FnOk.of (by kernel_rfl) (by kernel_rfl) Tryz.func31 c31

theorem c36 : comp Tryz.prog tab F.plan_Memory.closed F.plan_Memory_hs Tryz.f36 = some F.plan_Memory := by kernel_rfl
theorem g36 : FnOk Tryz.prog tab prog (36, 213) := FnOk.of (by kernel_rfl) (by kernel_rfl) Tryz.func36 c36

theorem c32 : comp Tryz.prog tab F.client_Client_knows.closed F.client_Client_knows_hs Tryz.f32 = some F.client_Client_knows := by kernel_rfl
theorem g32 : FnOk Tryz.prog tab prog (32, 356) := FnOk.of (by kernel_rfl) (by kernel_rfl) Tryz.func32 c32

theorem c33 : comp Tryz.prog tab F.epoch_NewPin.closed F.epoch_NewPin_hs Tryz.f33 = some F.epoch_NewPin := by kernel_rfl
theorem g33 : FnOk Tryz.prog tab prog (33, 357) := FnOk.of (by kernel_rfl) (by kernel_rfl) Tryz.func33 c33

theorem c34 : comp Tryz.prog tab F.client_Client_next.closed F.client_Client_next_hs Tryz.f34 = some F.client_Client_next := by kernel_rfl
theorem g34 : FnOk Tryz.prog tab prog (34, 358) := FnOk.of (by kernel_rfl) (by kernel_rfl) Tryz.func34 c34

theorem c158 : comp Tryz.prog tab F.epoch_Pin_Step.closed F.epoch_Pin_Step_hs Tryz.f158 = some F.epoch_Pin_Step := by kernel_rfl
theorem g158 : FnOk Tryz.prog tab prog (158, 552) := FnOk.of (by kernel_rfl) (by kernel_rfl) Tryz.func158 c158

theorem c35 : comp Tryz.prog tab F.root_Table_Find.closed F.root_Table_Find_hs Tryz.f35 = some F.root_Table_Find := by kernel_rfl
theorem g35 : FnOk Tryz.prog tab prog (35, 359) := FnOk.of (by kernel_rfl) (by kernel_rfl) Tryz.func35 c35

theorem c52 : comp Tryz.prog tab F.plan_Pin.closed F.plan_Pin_hs Tryz.f52 = some F.plan_Pin := by kernel_rfl
theorem g52 : FnOk Tryz.prog tab prog (52, 416) := FnOk.of (by kernel_rfl) (by kernel_rfl) Tryz.func52 c52

theorem c75 : comp Tryz.prog tab F.mem_Of.closed F.mem_Of_hs Tryz.f75 = some F.mem_Of := by kernel_rfl
theorem g75 : FnOk Tryz.prog tab prog (75, 198) := FnOk.of (by kernel_rfl) (by kernel_rfl) Tryz.func75 c75

theorem c48 : comp Tryz.prog tab F.plan_Right.closed F.plan_Right_hs Tryz.f48 = some F.plan_Right := by kernel_rfl
theorem g48 : FnOk Tryz.prog tab prog (48, 263) := FnOk.of (by kernel_rfl) (by kernel_rfl) Tryz.func48 c48

theorem c72 : comp Tryz.prog tab F.plan_Size.closed F.plan_Size_hs Tryz.f72 = some F.plan_Size := by kernel_rfl
theorem g72 : FnOk Tryz.prog tab prog (72, 264) := FnOk.of (by kernel_rfl) (by kernel_rfl) Tryz.func72 c72

theorem c74 : comp Tryz.prog tab F.plan_Link.closed F.plan_Link_hs Tryz.f74 = some F.plan_Link := by kernel_rfl
theorem g74 : FnOk Tryz.prog tab prog (74, 293) := FnOk.of (by kernel_rfl) (by kernel_rfl) Tryz.func74 c74

theorem c73 : comp Tryz.prog tab F.tag_Top.closed F.tag_Top_hs Tryz.f73 = some F.tag_Top := by kernel_rfl
theorem g73 : FnOk Tryz.prog tab prog (73, 350) := FnOk.of (by kernel_rfl) (by kernel_rfl) Tryz.func73 c73

theorem c54 : comp Tryz.prog tab F.op_Walk.closed F.op_Walk_hs Tryz.f54 = some F.op_Walk := by kernel_rfl
theorem g54 : FnOk Tryz.prog tab prog (54, 82) := FnOk.of (by kernel_rfl) (by kernel_rfl) Tryz.func54 c54

theorem c55 : comp Tryz.prog tab F.iter_Walk_Left.closed F.iter_Walk_Left_hs Tryz.f55 = some F.iter_Walk_Left := by kernel_rfl
theorem g55 : FnOk Tryz.prog tab prog (55, 171) := FnOk.of (by kernel_rfl) (by kernel_rfl) Tryz.func55 c55

theorem c53 : comp Tryz.prog tab F.client_Client_fails.closed F.client_Client_fails_hs Tryz.f53 = some F.client_Client_fails := by kernel_rfl
theorem g53 : FnOk Tryz.prog tab prog (53, 419) := FnOk.of (by kernel_rfl) (by kernel_rfl) Tryz.func53 c53

theorem c56 : comp Tryz.prog tab F.root_Table_Room.closed F.root_Table_Room_hs Tryz.f56 = some F.root_Table_Room := by kernel_rfl
theorem g56 : FnOk Tryz.prog tab prog (56, 420) := FnOk.of (by kernel_rfl) (by kernel_rfl) Tryz.func56 c56

theorem c57 : comp Tryz.prog tab F.client_Client_held.closed F.client_Client_held_hs Tryz.f57 = some F.client_Client_held := by kernel_rfl
theorem g57 : FnOk Tryz.prog tab prog (57, 421) := FnOk.of (by kernel_rfl) (by kernel_rfl) Tryz.func57 c57

theorem c58 : comp Tryz.prog tab F.client_Client_says.closed F.client_Client_says_hs Tryz.f58 = some F.client_Client_says := by kernel_rfl
theorem g58 : FnOk Tryz.prog tab prog (58, 422) := FnOk.of (by kernel_rfl) (by kernel_rfl) Tryz.func58 c58

theorem c67 : comp Tryz.prog tab F.field_NewTurn.closed F.field_NewTurn_hs Tryz.f67 = some F.field_NewTurn := by kernel_rfl
theorem g67 : FnOk Tryz.prog tab prog (67, 144) := FnOk.of (by kernel_rfl) (by kernel_rfl) Tryz.func67 c67

theorem c66 : comp Tryz.prog tab F.plan_Start.closed F.plan_Start_hs Tryz.f66 = some F.plan_Start := by kernel_rfl
theorem g66 : FnOk Tryz.prog tab prog (66, 321) := FnOk.of (by kernel_rfl) (by kernel_rfl) Tryz.func66 c66

theorem c68 : comp Tryz.prog tab F.plan_View.closed F.plan_View_hs Tryz.f68 = some F.plan_View := by kernel_rfl
theorem g68 : FnOk Tryz.prog tab prog (68, 393) := FnOk.of (by kernel_rfl) (by kernel_rfl) Tryz.func68 c68

theorem c59 : comp Tryz.prog tab F.client_Client_first.closed F.client_Client_first_hs Tryz.f59 = some F.client_Client_first := by kernel_rfl
theorem g59 : FnOk Tryz.prog tab prog (59, 423) := FnOk.of (by kernel_rfl) (by kernel_rfl) Tryz.func59 c59

theorem c60 : comp Tryz.prog tab F.client_Client_field.closed F.client_Client_field_hs Tryz.f60 = some F.client_Client_field := by kernel_rfl
theorem g60 : FnOk Tryz.prog tab prog (60, 424) := FnOk.of (by kernel_rfl) (by kernel_rfl) Tryz.func60 c60

theorem c61 : comp Tryz.prog tab F.client_Client_told.closed F.client_Client_told_hs Tryz.f61 = some F.client_Client_told := by kernel_rfl
theorem g61 : FnOk Tryz.prog tab prog (61, 425) := FnOk.of (by kernel_rfl) (by kernel_rfl) Tryz.func61 c61

theorem c62 : comp Tryz.prog tab F.client_Client_had.closed F.client_Client_had_hs Tryz.f62 = some F.client_Client_had := by kernel_rfl
theorem g62 : FnOk Tryz.prog tab prog (62, 426) := FnOk.of (by kernel_rfl) (by kernel_rfl) Tryz.func62 c62

theorem c63 : comp Tryz.prog tab F.client_Client_leave.closed F.client_Client_leave_hs Tryz.f63 = some F.client_Client_leave := by kernel_rfl
theorem g63 : FnOk Tryz.prog tab prog (63, 427) := FnOk.of (by kernel_rfl) (by kernel_rfl) Tryz.func63 c63

theorem c64 : comp Tryz.prog tab F.client_Client_drop.closed F.client_Client_drop_hs Tryz.f64 = some F.client_Client_drop := by kernel_rfl
theorem g64 : FnOk Tryz.prog tab prog (64, 428) := FnOk.of (by kernel_rfl) (by kernel_rfl) Tryz.func64 c64

theorem c65 : comp Tryz.prog tab F.client_Client_store.closed F.client_Client_store_hs Tryz.f65 = some F.client_Client_store := by kernel_rfl
theorem g65 : FnOk Tryz.prog tab prog (65, 429) := FnOk.of (by kernel_rfl) (by kernel_rfl) Tryz.func65 c65

theorem c69 : comp Tryz.prog tab F.client_Client_open.closed F.client_Client_open_hs Tryz.f69 = some F.client_Client_open := by kernel_rfl
theorem g69 : FnOk Tryz.prog tab prog (69, 430) := FnOk.of (by kernel_rfl) (by kernel_rfl) Tryz.func69 c69

theorem c70 : comp Tryz.prog tab F.client_Client_last.closed F.client_Client_last_hs Tryz.f70 = some F.client_Client_last := by kernel_rfl
theorem g70 : FnOk Tryz.prog tab prog (70, 431) := FnOk.of (by kernel_rfl) (by kernel_rfl) Tryz.func70 c70

theorem c181 : comp Tryz.prog tab F.field_Turn_Step.closed F.field_Turn_Step_hs Tryz.f181 = some F.field_Turn_Step := by kernel_rfl
theorem g181 : FnOk Tryz.prog tab prog (181, 145) := FnOk.of (by kernel_rfl) (by kernel_rfl) Tryz.func181 c181

theorem c159 : comp Tryz.prog tab F.mem_Mem_Store.closed F.mem_Mem_Store_hs Tryz.f159 = some F.mem_Mem_Store := by kernel_rfl
theorem g159 : FnOk Tryz.prog tab prog (159, 203) := FnOk.of (by kernel_rfl) (by kernel_rfl) Tryz.func159 c159

theorem c107 : comp Tryz.prog tab F.mem_Mem_Load.closed F.mem_Mem_Load_hs Tryz.f107 = some F.mem_Mem_Load := by kernel_rfl
theorem g107 : FnOk Tryz.prog tab prog (107, 266) := FnOk.of (by kernel_rfl) (by kernel_rfl) Tryz.func107 c107

theorem c108 : comp Tryz.prog tab F.epoch_pinned.closed F.epoch_pinned_hs Tryz.f108 = some F.epoch_pinned := by kernel_rfl
theorem g108 : FnOk Tryz.prog tab prog (108, 417) := FnOk.of (by kernel_rfl) (by kernel_rfl) Tryz.func108 c108

theorem c71 : comp Tryz.prog tab F.tag_HandleParts.closed F.tag_HandleParts_hs Tryz.f71 = some F.tag_HandleParts := by kernel_rfl
theorem g71 : FnOk Tryz.prog tab prog (71, 432) := FnOk.of (by kernel_rfl) (by kernel_rfl) Tryz.func71 c71

theorem c83 : comp Tryz.prog tab F.plan_place.closed F.plan_place_hs Tryz.f83 = some F.plan_place := by kernel_rfl
theorem g83 : FnOk Tryz.prog tab prog (83, 397) := FnOk.of (by kernel_rfl) (by kernel_rfl) Tryz.func83 c83

theorem c45 : comp Tryz.prog tab F.slices_Clone___uint64_uint64_.closed F.slices_Clone___uint64_uint64__hs Tryz.f45 = some F.slices_Clone___uint64_uint64_ := by kernel_rfl
theorem g45 : FnOk Tryz.prog tab prog (45, 271) := FnOk.of (by kernel_rfl) (by kernel_rfl) Tryz.func45 c45

theorem c82 : comp Tryz.prog tab F.plan_between.closed F.plan_between_hs Tryz.f82 = some F.plan_between := by kernel_rfl
theorem g82 : FnOk Tryz.prog tab prog (82, 376) := FnOk.of (by kernel_rfl) (by kernel_rfl) Tryz.func82 c82

theorem c102 : comp Tryz.prog tab F.plan_slots.closed F.plan_slots_hs Tryz.f102 = some F.plan_slots := by kernel_rfl
theorem g102 : FnOk Tryz.prog tab prog (102, 377) := FnOk.of (by kernel_rfl) (by kernel_rfl) Tryz.func102 c102

theorem c103 : comp Tryz.prog tab F.plan_room.closed F.plan_room_hs Tryz.f103 = some F.plan_room := by kernel_rfl
theorem g103 : FnOk Tryz.prog tab prog (103, 378) := FnOk.of (by kernel_rfl) (by kernel_rfl) Tryz.func103 c103

theorem c105 : comp Tryz.prog tab F.plan_within.closed F.plan_within_hs Tryz.f105 = some F.plan_within := by kernel_rfl
theorem g105 : FnOk Tryz.prog tab prog (105, 375) := FnOk.of (by kernel_rfl) (by kernel_rfl) Tryz.func105 c105

theorem c104 : comp Tryz.prog tab F.tag_tagged.closed F.tag_tagged_hs Tryz.f104 = some F.tag_tagged := by kernel_rfl
theorem g104 : FnOk Tryz.prog tab prog (104, 414) := FnOk.of (by kernel_rfl) (by kernel_rfl) Tryz.func104 c104

theorem c84 : comp Tryz.prog tab F.root_Table_free.closed F.root_Table_free_hs Tryz.f84 = some F.root_Table_free := by kernel_rfl
theorem g84 : FnOk Tryz.prog tab prog (84, 463) := FnOk.of (by kernel_rfl) (by kernel_rfl) Tryz.func84 c84

theorem c88 : comp Tryz.prog tab F.plan_Header.closed F.plan_Header_hs Tryz.f88 = some F.plan_Header := by kernel_rfl
theorem g88 : FnOk Tryz.prog tab prog (88, 261) := FnOk.of (by kernel_rfl) (by kernel_rfl) Tryz.func88 c88

theorem c85 : comp Tryz.prog tab F.arena_NewMake.closed F.arena_NewMake_hs Tryz.f85 = some F.arena_NewMake := by kernel_rfl
theorem g85 : FnOk Tryz.prog tab prog (85, 464) := FnOk.of (by kernel_rfl) (by kernel_rfl) Tryz.func85 c85

theorem c86 : comp Tryz.prog tab F.client_Client_shade.closed F.client_Client_shade_hs Tryz.f86 = some F.client_Client_shade := by kernel_rfl
theorem g86 : FnOk Tryz.prog tab prog (86, 465) := FnOk.of (by kernel_rfl) (by kernel_rfl) Tryz.func86 c86

theorem c87 : comp Tryz.prog tab F.client_Client_load.closed F.client_Client_load_hs Tryz.f87 = some F.client_Client_load := by kernel_rfl
theorem g87 : FnOk Tryz.prog tab prog (87, 466) := FnOk.of (by kernel_rfl) (by kernel_rfl) Tryz.func87 c87

theorem c148 : comp Tryz.prog tab F.iter_Walk_Step.closed F.iter_Walk_Step_hs Tryz.f148 = some F.iter_Walk_Step := by kernel_rfl
theorem g148 : FnOk Tryz.prog tab prog (148, 176) := FnOk.of (by kernel_rfl) (by kernel_rfl) Tryz.func148 c148

theorem c161 : comp Tryz.prog tab F.arena_Make_Step.closed F.arena_Make_Step_hs Tryz.f161 = some F.arena_Make_Step := by kernel_rfl
theorem g161 : FnOk Tryz.prog tab prog (161, 554) := FnOk.of (by kernel_rfl) (by kernel_rfl) Tryz.func161 c161

theorem c90 : comp Tryz.prog tab F.field_NewRead.closed F.field_NewRead_hs Tryz.f90 = some F.field_NewRead := by kernel_rfl
theorem g90 : FnOk Tryz.prog tab prog (90, 127) := FnOk.of (by kernel_rfl) (by kernel_rfl) Tryz.func90 c90

theorem c89 : comp Tryz.prog tab F.head_Unpack.closed F.head_Unpack_hs Tryz.f89 = some F.head_Unpack := by kernel_rfl
theorem g89 : FnOk Tryz.prog tab prog (89, 265) := FnOk.of (by kernel_rfl) (by kernel_rfl) Tryz.func89 c89

theorem c91 : comp Tryz.prog tab F.client_Client_record.closed F.client_Client_record_hs Tryz.f91 = some F.client_Client_record := by kernel_rfl
theorem g91 : FnOk Tryz.prog tab prog (91, 467) := FnOk.of (by kernel_rfl) (by kernel_rfl) Tryz.func91 c91

theorem c173 : comp Tryz.prog tab F.field_Read_Step.closed F.field_Read_Step_hs Tryz.f173 = some F.field_Read_Step := by kernel_rfl
theorem g173 : FnOk Tryz.prog tab prog (173, 128) := FnOk.of (by kernel_rfl) (by kernel_rfl) Tryz.func173 c173

theorem c92 : comp Tryz.prog tab F.client_Client_take.closed F.client_Client_take_hs Tryz.f92 = some F.client_Client_take := by kernel_rfl
theorem g92 : FnOk Tryz.prog tab prog (92, 468) := FnOk.of (by kernel_rfl) (by kernel_rfl) Tryz.func92 c92

theorem c93 : comp Tryz.prog tab F.field_NewLay.closed F.field_NewLay_hs Tryz.f93 = some F.field_NewLay := by kernel_rfl
theorem g93 : FnOk Tryz.prog tab prog (93, 132) := FnOk.of (by kernel_rfl) (by kernel_rfl) Tryz.func93 c93

theorem c175 : comp Tryz.prog tab F.field_Lay_Step.closed F.field_Lay_Step_hs Tryz.f175 = some F.field_Lay_Step := by kernel_rfl
theorem g175 : FnOk Tryz.prog tab prog (175, 133) := FnOk.of (by kernel_rfl) (by kernel_rfl) Tryz.func175 c175

theorem c94 : comp Tryz.prog tab F.epoch_NewLeave.closed F.epoch_NewLeave_hs Tryz.f94 = some F.epoch_NewLeave := by kernel_rfl
theorem g94 : FnOk Tryz.prog tab prog (94, 469) := FnOk.of (by kernel_rfl) (by kernel_rfl) Tryz.func94 c94

theorem c183 : comp Tryz.prog tab F.epoch_Leave_Step.closed F.epoch_Leave_Step_hs Tryz.f183 = some F.epoch_Leave_Step := by kernel_rfl
theorem g183 : FnOk Tryz.prog tab prog (183, 559) := FnOk.of (by kernel_rfl) (by kernel_rfl) Tryz.func183 c183

theorem c96 : comp Tryz.prog tab F.plan_Entry.closed F.plan_Entry_hs Tryz.f96 = some F.plan_Entry := by kernel_rfl
theorem g96 : FnOk Tryz.prog tab prog (96, 319) := FnOk.of (by kernel_rfl) (by kernel_rfl) Tryz.func96 c96

theorem c95 : comp Tryz.prog tab F.root_Table_Drop.closed F.root_Table_Drop_hs Tryz.f95 = some F.root_Table_Drop := by kernel_rfl
theorem g95 : FnOk Tryz.prog tab prog (95, 470) := FnOk.of (by kernel_rfl) (by kernel_rfl) Tryz.func95 c95

theorem c97 : comp Tryz.prog tab F.root_Table_Word.closed F.root_Table_Word_hs Tryz.f97 = some F.root_Table_Word := by kernel_rfl
theorem g97 : FnOk Tryz.prog tab prog (97, 471) := FnOk.of (by kernel_rfl) (by kernel_rfl) Tryz.func97 c97

theorem c160 : comp Tryz.prog tab F.client_word_Step.closed F.client_word_Step_hs Tryz.f160 = some F.client_word_Step := by kernel_rfl
theorem g160 : FnOk Tryz.prog tab prog (160, 553) := FnOk.of (by kernel_rfl) (by kernel_rfl) Tryz.func160 c160

theorem c99 : comp Tryz.prog tab F.iter_NewWalk.closed F.iter_NewWalk_hs Tryz.f99 = some F.iter_NewWalk := by kernel_rfl
theorem g99 : FnOk Tryz.prog tab prog (99, 167) := FnOk.of (by kernel_rfl) (by kernel_rfl) Tryz.func99 c99

theorem c98 : comp Tryz.prog tab F.tag_Handle.closed F.tag_Handle_hs Tryz.f98 = some F.tag_Handle := by kernel_rfl
theorem g98 : FnOk Tryz.prog tab prog (98, 472) := FnOk.of (by kernel_rfl) (by kernel_rfl) Tryz.func98 c98

theorem c100 : comp Tryz.prog tab F.iter_Walk_Go.closed F.iter_Walk_Go_hs Tryz.f100 = some F.iter_Walk_Go := by kernel_rfl
theorem g100 : FnOk Tryz.prog tab prog (100, 177) := FnOk.of (by kernel_rfl) (by kernel_rfl) Tryz.func100 c100

theorem c182 : comp Tryz.prog tab F.field_Book_Turned.closed F.field_Book_Turned_hs Tryz.f182 = some F.field_Book_Turned := by kernel_rfl
theorem g182 : FnOk Tryz.prog tab prog (182, 153) := FnOk.of (by kernel_rfl) (by kernel_rfl) Tryz.func182 c182

theorem c109 : comp Tryz.prog tab F.mem_Mem_Swap.closed F.mem_Mem_Swap_hs Tryz.f109 = some F.mem_Mem_Swap := by kernel_rfl
theorem g109 : FnOk Tryz.prog tab prog (109, 269) := FnOk.of (by kernel_rfl) (by kernel_rfl) Tryz.func109 c109

theorem c125 : comp Tryz.prog tab F.mem_Mem_there.closed F.mem_Mem_there_hs Tryz.f125 = some F.mem_Mem_there := by kernel_rfl
theorem g125 : FnOk Tryz.prog tab prog (125, 346) := FnOk.of (by kernel_rfl) (by kernel_rfl) Tryz.func125 c125

theorem c126 : comp Tryz.prog tab F.mem_Mem_touch.closed F.mem_Mem_touch_hs Tryz.f126 = some F.mem_Mem_touch := by kernel_rfl
theorem g126 : FnOk Tryz.prog tab prog (126, 347) := FnOk.of (by kernel_rfl) (by kernel_rfl) Tryz.func126 c126

theorem c101 : comp Tryz.prog tab F.word_Unpack.closed F.word_Unpack_hs Tryz.f101 = some F.word_Unpack := by kernel_rfl
theorem g101 : FnOk Tryz.prog tab prog (101, 379) := FnOk.of (by kernel_rfl) (by kernel_rfl) Tryz.func101 c101

theorem c121 : comp Tryz.prog tab F.word_Pack.closed F.word_Pack_hs Tryz.f121 = some F.word_Pack := by kernel_rfl
theorem g121 : FnOk Tryz.prog tab prog (121, 443) := FnOk.of (by kernel_rfl) (by kernel_rfl) Tryz.func121 c121

theorem c124 : comp Tryz.prog tab F.tag_slots.closed F.tag_slots_hs Tryz.f124 = some F.tag_slots := by kernel_rfl
theorem g124 : FnOk Tryz.prog tab prog (124, 462) := FnOk.of (by kernel_rfl) (by kernel_rfl) Tryz.func124 c124

theorem c114 : comp Tryz.prog tab F.plan_Body.closed F.plan_Body_hs Tryz.f114 = some F.plan_Body := by kernel_rfl
theorem g114 : FnOk Tryz.prog tab prog (114, 305) := FnOk.of (by kernel_rfl) (by kernel_rfl) Tryz.func114 c114

theorem c115 : comp Tryz.prog tab F.stack_NewPop.closed F.stack_NewPop_hs Tryz.f115 = some F.stack_NewPop := by kernel_rfl
theorem g115 : FnOk Tryz.prog tab prog (115, 493) := FnOk.of (by kernel_rfl) (by kernel_rfl) Tryz.func115 c115

theorem c117 : comp Tryz.prog tab F.shade_NewShade.closed F.shade_NewShade_hs Tryz.f117 = some F.shade_NewShade := by kernel_rfl
theorem g117 : FnOk Tryz.prog tab prog (117, 90) := FnOk.of (by kernel_rfl) (by kernel_rfl) Tryz.func117 c117

theorem c116 : comp Tryz.prog tab F.client_Client_barrier.closed F.client_Client_barrier_hs Tryz.f116 = some F.client_Client_barrier := by kernel_rfl
theorem g116 : FnOk Tryz.prog tab prog (116, 494) := FnOk.of (by kernel_rfl) (by kernel_rfl) Tryz.func116 c116

theorem c177 : comp Tryz.prog tab F.shade_Shade_Step.closed F.shade_Shade_Step_hs Tryz.f177 = some F.shade_Shade_Step := by kernel_rfl
theorem g177 : FnOk Tryz.prog tab prog (177, 91) := FnOk.of (by kernel_rfl) (by kernel_rfl) Tryz.func177 c177

theorem c150 : comp Tryz.prog tab F.field_See_Step.closed F.field_See_Step_hs Tryz.f150 = some F.field_See_Step := by kernel_rfl
theorem g150 : FnOk Tryz.prog tab prog (150, 147) := FnOk.of (by kernel_rfl) (by kernel_rfl) Tryz.func150 c150

theorem c149 : comp Tryz.prog tab F.iter_Walk_field.closed F.iter_Walk_field_hs Tryz.f149 = some F.iter_Walk_field := by kernel_rfl
theorem g149 : FnOk Tryz.prog tab prog (149, 330) := FnOk.of (by kernel_rfl) (by kernel_rfl) Tryz.func149 c149

theorem c151 : comp Tryz.prog tab F.slices_Contains___int_int_.closed F.slices_Contains___int_int__hs Tryz.f151 = some F.slices_Contains___int_int_ := by kernel_rfl
theorem g151 : FnOk Tryz.prog tab prog (151, 331) := FnOk.of (by kernel_rfl) (by kernel_rfl) Tryz.func151 c151

theorem c162 : comp Tryz.prog tab F.stack_Pop_Step.closed F.stack_Pop_Step_hs Tryz.f162 = some F.stack_Pop_Step := by kernel_rfl
theorem g162 : FnOk Tryz.prog tab prog (162, 555) := FnOk.of (by kernel_rfl) (by kernel_rfl) Tryz.func162 c162

theorem c163 : comp Tryz.prog tab F.head_Made.closed F.head_Made_hs Tryz.f163 = some F.head_Made := by kernel_rfl
theorem g163 : FnOk Tryz.prog tab prog (163, 556) := FnOk.of (by kernel_rfl) (by kernel_rfl) Tryz.func163 c163

theorem c118 : comp Tryz.prog tab F.field_fresh.closed F.field_fresh_hs Tryz.f118 = some F.field_fresh := by kernel_rfl
theorem g118 : FnOk Tryz.prog tab prog (118, 302) := FnOk.of (by kernel_rfl) (by kernel_rfl) Tryz.func118 c118

theorem c153 : comp Tryz.prog tab F.field_newest_step.closed F.field_newest_step_hs Tryz.f153 = some F.field_newest_step := by kernel_rfl
theorem g153 : FnOk Tryz.prog tab prog (153, 303) := FnOk.of (by kernel_rfl) (by kernel_rfl) Tryz.func153 c153

theorem c154 : comp Tryz.prog tab F.field_named.closed F.field_named_hs Tryz.f154 = some F.field_named := by kernel_rfl
theorem g154 : FnOk Tryz.prog tab prog (154, 304) := FnOk.of (by kernel_rfl) (by kernel_rfl) Tryz.func154 c154

theorem c174 : comp Tryz.prog tab F.field_newest_point.closed F.field_newest_point_hs Tryz.f174 = some F.field_newest_point := by kernel_rfl
theorem g174 : FnOk Tryz.prog tab prog (174, 306) := FnOk.of (by kernel_rfl) (by kernel_rfl) Tryz.func174 c174

theorem c119 : comp Tryz.prog tab F.root_Table_Take.closed F.root_Table_Take_hs Tryz.f119 = some F.root_Table_Take := by kernel_rfl
theorem g119 : FnOk Tryz.prog tab prog (119, 495) := FnOk.of (by kernel_rfl) (by kernel_rfl) Tryz.func119 c119

theorem c157 : comp Tryz.prog tab F.field_Stamp_Step.closed F.field_Stamp_Step_hs Tryz.f157 = some F.field_Stamp_Step := by kernel_rfl
theorem g157 : FnOk Tryz.prog tab prog (157, 150) := FnOk.of (by kernel_rfl) (by kernel_rfl) Tryz.func157 c157

theorem c156 : comp Tryz.prog tab F.field_NewStamp.closed F.field_NewStamp_hs Tryz.f156 = some F.field_NewStamp := by kernel_rfl
theorem g156 : FnOk Tryz.prog tab prog (156, 151) := FnOk.of (by kernel_rfl) (by kernel_rfl) Tryz.func156 c156

theorem c146 : comp Tryz.prog tab F.field_Book_Born.closed F.field_Book_Born_hs Tryz.f146 = some F.field_Book_Born := by kernel_rfl
theorem g146 : FnOk Tryz.prog tab prog (146, 152) := FnOk.of (by kernel_rfl) (by kernel_rfl) Tryz.func146 c146

theorem c176 : comp Tryz.prog tab F.field_Lay_refuse.closed F.field_Lay_refuse_hs Tryz.f176 = some F.field_Lay_refuse := by kernel_rfl
theorem g176 : FnOk Tryz.prog tab prog (176, 307) := FnOk.of (by kernel_rfl) (by kernel_rfl) Tryz.func176 c176

theorem c127 : comp Tryz.prog tab F.turn_Fenced.closed F.turn_Fenced_hs Tryz.f127 = some F.turn_Fenced := by kernel_rfl
theorem g127 : FnOk Tryz.prog tab prog (127, 308) := FnOk.of (by kernel_rfl) (by kernel_rfl) Tryz.func127 c127

theorem c120 : comp Tryz.prog tab F.tag_Entry.closed F.tag_Entry_hs Tryz.f120 = some F.tag_Entry := by kernel_rfl
theorem g120 : FnOk Tryz.prog tab prog (120, 496) := FnOk.of (by kernel_rfl) (by kernel_rfl) Tryz.func120 c120

theorem c130 : comp Tryz.prog tab F.mem_Mem_Size.closed F.mem_Mem_Size_hs Tryz.f130 = some F.mem_Mem_Size := by kernel_rfl
theorem g130 : FnOk Tryz.prog tab prog (130, 413) := FnOk.of (by kernel_rfl) (by kernel_rfl) Tryz.func130 c130

theorem c123 : comp Tryz.prog tab F.word_Get.closed F.word_Get_hs Tryz.f123 = some F.word_Get := by kernel_rfl
theorem g123 : FnOk Tryz.prog tab prog (123, 396) := FnOk.of (by kernel_rfl) (by kernel_rfl) Tryz.func123 c123

theorem c122 : comp Tryz.prog tab F.word_some.closed F.word_some_hs Tryz.f122 = some F.word_some := by kernel_rfl
theorem g122 : FnOk Tryz.prog tab prog (122, 441) := FnOk.of (by kernel_rfl) (by kernel_rfl) Tryz.func122 c122

theorem c128 : comp Tryz.prog tab F.word_Fits.closed F.word_Fits_hs Tryz.f128 = some F.word_Fits := by kernel_rfl
theorem g128 : FnOk Tryz.prog tab prog (128, 484) := FnOk.of (by kernel_rfl) (by kernel_rfl) Tryz.func128 c128

theorem c178 : comp Tryz.prog tab F.head_Shaded.closed F.head_Shaded_hs Tryz.f178 = some F.head_Shaded := by kernel_rfl
theorem g178 : FnOk Tryz.prog tab prog (178, 267) := FnOk.of (by kernel_rfl) (by kernel_rfl) Tryz.func178 c178

theorem c179 : comp Tryz.prog tab F.mem_Mem_Add.closed F.mem_Mem_Add_hs Tryz.f179 = some F.mem_Mem_Add := by kernel_rfl
theorem g179 : FnOk Tryz.prog tab prog (179, 268) := FnOk.of (by kernel_rfl) (by kernel_rfl) Tryz.func179 c179

theorem c152 : comp Tryz.prog tab F.field_NewSee.closed F.field_NewSee_hs Tryz.f152 = some F.field_NewSee := by kernel_rfl
theorem g152 : FnOk Tryz.prog tab prog (152, 146) := FnOk.of (by kernel_rfl) (by kernel_rfl) Tryz.func152 c152

theorem c155 : comp Tryz.prog tab F.slices_Index___int_int_.closed F.slices_Index___int_int__hs Tryz.f155 = some F.slices_Index___int_int_ := by kernel_rfl
theorem g155 : FnOk Tryz.prog tab prog (155, 404) := FnOk.of (by kernel_rfl) (by kernel_rfl) Tryz.func155 c155

theorem c164 : comp Tryz.prog tab F.stack_first.closed F.stack_first_hs Tryz.f164 = some F.stack_first := by kernel_rfl
theorem g164 : FnOk Tryz.prog tab prog (164, 391) := FnOk.of (by kernel_rfl) (by kernel_rfl) Tryz.func164 c164

theorem c165 : comp Tryz.prog tab F.stack_linked.closed F.stack_linked_hs Tryz.f165 = some F.stack_linked := by kernel_rfl
theorem g165 : FnOk Tryz.prog tab prog (165, 392) := FnOk.of (by kernel_rfl) (by kernel_rfl) Tryz.func165 c165

theorem c166 : comp Tryz.prog tab F.tag_Moved.closed F.tag_Moved_hs Tryz.f166 = some F.tag_Moved := by kernel_rfl
theorem g166 : FnOk Tryz.prog tab prog (166, 461) := FnOk.of (by kernel_rfl) (by kernel_rfl) Tryz.func166 c166

theorem c167 : comp Tryz.prog tab F.head_Pack.closed F.head_Pack_hs Tryz.f167 = some F.head_Pack := by kernel_rfl
theorem g167 : FnOk Tryz.prog tab prog (167, 382) := FnOk.of (by kernel_rfl) (by kernel_rfl) Tryz.func167 c167

theorem c168 : comp Tryz.prog tab F.turn_Born.closed F.turn_Born_hs Tryz.f168 = some F.turn_Born := by kernel_rfl
theorem g168 : FnOk Tryz.prog tab prog (168, 557) := FnOk.of (by kernel_rfl) (by kernel_rfl) Tryz.func168 c168

theorem c129 : comp Tryz.prog tab F.word_mask.closed F.word_mask_hs Tryz.f129 = some F.word_mask := by kernel_rfl
theorem g129 : FnOk Tryz.prog tab prog (129, 449) := FnOk.of (by kernel_rfl) (by kernel_rfl) Tryz.func129 c129

theorem c180 : comp Tryz.prog tab F.head_lives.closed F.head_lives_hs Tryz.f180 = some F.head_lives := by kernel_rfl
theorem g180 : FnOk Tryz.prog tab prog (180, 380) := FnOk.of (by kernel_rfl) (by kernel_rfl) Tryz.func180 c180

theorem c171 : comp Tryz.prog tab F.turn_Black.closed F.turn_Black_hs Tryz.f171 = some F.turn_Black := by kernel_rfl
theorem g171 : FnOk Tryz.prog tab prog (171, 381) := FnOk.of (by kernel_rfl) (by kernel_rfl) Tryz.func171 c171

theorem c169 : comp Tryz.prog tab F.tag_TopParts.closed F.tag_TopParts_hs Tryz.f169 = some F.tag_TopParts := by kernel_rfl
theorem g169 : FnOk Tryz.prog tab prog (169, 447) := FnOk.of (by kernel_rfl) (by kernel_rfl) Tryz.func169 c169

theorem c170 : comp Tryz.prog tab F.head_bit.closed F.head_bit_hs Tryz.f170 = some F.head_bit := by kernel_rfl
theorem g170 : FnOk Tryz.prog tab prog (170, 444) := FnOk.of (by kernel_rfl) (by kernel_rfl) Tryz.func170 c170

theorem c172 : comp Tryz.prog tab F.turn_Cycle.closed F.turn_Cycle_hs Tryz.f172 = some F.turn_Cycle := by kernel_rfl
theorem g172 : FnOk Tryz.prog tab prog (172, 442) := FnOk.of (by kernel_rfl) (by kernel_rfl) Tryz.func172 c172

theorem progOk : ProgOk Tryz.prog tab prog := ProgOk.of_fn (l := tab.fn) rfl (by
  unfold tab
  exact List.forall_mem_cons.mpr ⟨g3, List.forall_mem_cons.mpr ⟨g6, List.forall_mem_cons.mpr ⟨g5, List.forall_mem_cons.mpr ⟨g8, List.forall_mem_cons.mpr ⟨g14, List.forall_mem_cons.mpr ⟨g9, List.forall_mem_cons.mpr ⟨g11, List.forall_mem_cons.mpr ⟨g12, List.forall_mem_cons.mpr ⟨g13, List.forall_mem_cons.mpr ⟨g7, List.forall_mem_cons.mpr ⟨g10, List.forall_mem_cons.mpr ⟨g31, List.forall_mem_cons.mpr ⟨g36, List.forall_mem_cons.mpr ⟨g32, List.forall_mem_cons.mpr ⟨g33, List.forall_mem_cons.mpr ⟨g34, List.forall_mem_cons.mpr ⟨g158, List.forall_mem_cons.mpr ⟨g35, List.forall_mem_cons.mpr ⟨g52, List.forall_mem_cons.mpr ⟨g75, List.forall_mem_cons.mpr ⟨g48, List.forall_mem_cons.mpr ⟨g72, List.forall_mem_cons.mpr ⟨g74, List.forall_mem_cons.mpr ⟨g73, List.forall_mem_cons.mpr ⟨g54, List.forall_mem_cons.mpr ⟨g55, List.forall_mem_cons.mpr ⟨g53, List.forall_mem_cons.mpr ⟨g56, List.forall_mem_cons.mpr ⟨g57, List.forall_mem_cons.mpr ⟨g58, List.forall_mem_cons.mpr ⟨g67, List.forall_mem_cons.mpr ⟨g66, List.forall_mem_cons.mpr ⟨g68, List.forall_mem_cons.mpr ⟨g59, List.forall_mem_cons.mpr ⟨g60, List.forall_mem_cons.mpr ⟨g61, List.forall_mem_cons.mpr ⟨g62, List.forall_mem_cons.mpr ⟨g63, List.forall_mem_cons.mpr ⟨g64, List.forall_mem_cons.mpr ⟨g65, List.forall_mem_cons.mpr ⟨g69, List.forall_mem_cons.mpr ⟨g70, List.forall_mem_cons.mpr ⟨g181, List.forall_mem_cons.mpr ⟨g159, List.forall_mem_cons.mpr ⟨g107, List.forall_mem_cons.mpr ⟨g108, List.forall_mem_cons.mpr ⟨g71, List.forall_mem_cons.mpr ⟨g83, List.forall_mem_cons.mpr ⟨g45, List.forall_mem_cons.mpr ⟨g82, List.forall_mem_cons.mpr ⟨g102, List.forall_mem_cons.mpr ⟨g103, List.forall_mem_cons.mpr ⟨g105, List.forall_mem_cons.mpr ⟨g104, List.forall_mem_cons.mpr ⟨g84, List.forall_mem_cons.mpr ⟨g88, List.forall_mem_cons.mpr ⟨g85, List.forall_mem_cons.mpr ⟨g86, List.forall_mem_cons.mpr ⟨g87, List.forall_mem_cons.mpr ⟨g148, List.forall_mem_cons.mpr ⟨g161, List.forall_mem_cons.mpr ⟨g90, List.forall_mem_cons.mpr ⟨g89, List.forall_mem_cons.mpr ⟨g91, List.forall_mem_cons.mpr ⟨g173, List.forall_mem_cons.mpr ⟨g92, List.forall_mem_cons.mpr ⟨g93, List.forall_mem_cons.mpr ⟨g175, List.forall_mem_cons.mpr ⟨g94, List.forall_mem_cons.mpr ⟨g183, List.forall_mem_cons.mpr ⟨g96, List.forall_mem_cons.mpr ⟨g95, List.forall_mem_cons.mpr ⟨g97, List.forall_mem_cons.mpr ⟨g160, List.forall_mem_cons.mpr ⟨g99, List.forall_mem_cons.mpr ⟨g98, List.forall_mem_cons.mpr ⟨g100, List.forall_mem_cons.mpr ⟨g182, List.forall_mem_cons.mpr ⟨g109, List.forall_mem_cons.mpr ⟨g125, List.forall_mem_cons.mpr ⟨g126, List.forall_mem_cons.mpr ⟨g101, List.forall_mem_cons.mpr ⟨g121, List.forall_mem_cons.mpr ⟨g124, List.forall_mem_cons.mpr ⟨g114, List.forall_mem_cons.mpr ⟨g115, List.forall_mem_cons.mpr ⟨g117, List.forall_mem_cons.mpr ⟨g116, List.forall_mem_cons.mpr ⟨g177, List.forall_mem_cons.mpr ⟨g150, List.forall_mem_cons.mpr ⟨g149, List.forall_mem_cons.mpr ⟨g151, List.forall_mem_cons.mpr ⟨g162, List.forall_mem_cons.mpr ⟨g163, List.forall_mem_cons.mpr ⟨g118, List.forall_mem_cons.mpr ⟨g153, List.forall_mem_cons.mpr ⟨g154, List.forall_mem_cons.mpr ⟨g174, List.forall_mem_cons.mpr ⟨g119, List.forall_mem_cons.mpr ⟨g157, List.forall_mem_cons.mpr ⟨g156, List.forall_mem_cons.mpr ⟨g146, List.forall_mem_cons.mpr ⟨g176, List.forall_mem_cons.mpr ⟨g127, List.forall_mem_cons.mpr ⟨g120, List.forall_mem_cons.mpr ⟨g130, List.forall_mem_cons.mpr ⟨g123, List.forall_mem_cons.mpr ⟨g122, List.forall_mem_cons.mpr ⟨g128, List.forall_mem_cons.mpr ⟨g178, List.forall_mem_cons.mpr ⟨g179, List.forall_mem_cons.mpr ⟨g152, List.forall_mem_cons.mpr ⟨g155, List.forall_mem_cons.mpr ⟨g164, List.forall_mem_cons.mpr ⟨g165, List.forall_mem_cons.mpr ⟨g166, List.forall_mem_cons.mpr ⟨g167, List.forall_mem_cons.mpr ⟨g168, List.forall_mem_cons.mpr ⟨g129, List.forall_mem_cons.mpr ⟨g180, List.forall_mem_cons.mpr ⟨g171, List.forall_mem_cons.mpr ⟨g169, List.forall_mem_cons.mpr ⟨g170, List.forall_mem_cons.mpr ⟨g172, List.forall_mem_nil _⟩⟩⟩⟩⟩⟩⟩⟩⟩⟩⟩⟩⟩⟩⟩⟩⟩⟩⟩⟩⟩⟩⟩⟩⟩⟩⟩⟩⟩⟩⟩⟩⟩⟩⟩⟩⟩⟩⟩⟩⟩⟩⟩⟩⟩⟩⟩⟩⟩⟩⟩⟩⟩⟩⟩⟩⟩⟩⟩⟩⟩⟩⟩⟩⟩⟩⟩⟩⟩⟩⟩⟩⟩⟩⟩⟩⟩⟩⟩⟩⟩⟩⟩⟩⟩⟩⟩⟩⟩⟩⟩⟩⟩⟩⟩⟩⟩⟩⟩⟩⟩⟩⟩⟩⟩⟩⟩⟩⟩⟩⟩⟩⟩⟩⟩⟩⟩⟩⟩⟩⟩⟩⟩⟩)

theorem m164 (v : Value) (w : World) : (Go.method (Tryz.prog.types.size + Go.Made.depth) 164 v "Step").run Tryz.prog w = .ok (183, v) w := by kernel_rfl
theorem m123 (v : Value) (w : World) : (Go.method (Tryz.prog.types.size + Go.Made.depth) 123 v "Step").run Tryz.prog w = .ok (177, v) w := by kernel_rfl
theorem m76 (v : Value) (w : World) : (Go.method (Tryz.prog.types.size + Go.Made.depth) 76 v "Step").run Tryz.prog w = .ok (181, v) w := by kernel_rfl
theorem m75 (v : Value) (w : World) : (Go.method (Tryz.prog.types.size + Go.Made.depth) 75 v "Step").run Tryz.prog w = .ok (175, v) w := by kernel_rfl
theorem m74 (v : Value) (w : World) : (Go.method (Tryz.prog.types.size + Go.Made.depth) 74 v "Step").run Tryz.prog w = .ok (173, v) w := by kernel_rfl
theorem m73 (v : Value) (w : World) : (Go.method (Tryz.prog.types.size + Go.Made.depth) 73 v "Step").run Tryz.prog w = .ok (161, v) w := by kernel_rfl
theorem m72 (v : Value) (w : World) : (Go.method (Tryz.prog.types.size + Go.Made.depth) 72 v "Step").run Tryz.prog w = .ok (160, v) w := by kernel_rfl
theorem m71 (v : Value) (w : World) : (Go.method (Tryz.prog.types.size + Go.Made.depth) 71 v "Step").run Tryz.prog w = .ok (158, v) w := by kernel_rfl
theorem m68 (v : Value) (w : World) : (Go.method (Tryz.prog.types.size + Go.Made.depth) 68 v "Step").run Tryz.prog w = .ok (148, v) w := by kernel_rfl
theorem methOk : MethOk Tryz.prog tab meth := MethOk.of (n := "Step") (i := 0) rfl (by
  unfold tab
  exact List.forall_mem_cons.mpr ⟨(fun f hf => by
    have e : some 176 = some f := hf
    cases e
    exact ⟨148, by kernel_rfl, m68⟩), List.forall_mem_cons.mpr ⟨(fun f hf => by
    have e : some 552 = some f := hf
    cases e
    exact ⟨158, by kernel_rfl, m71⟩), List.forall_mem_cons.mpr ⟨(fun f hf => by
    have e : some 553 = some f := hf
    cases e
    exact ⟨160, by kernel_rfl, m72⟩), List.forall_mem_cons.mpr ⟨(fun f hf => by
    have e : some 554 = some f := hf
    cases e
    exact ⟨161, by kernel_rfl, m73⟩), List.forall_mem_cons.mpr ⟨(fun f hf => by
    have e : some 128 = some f := hf
    cases e
    exact ⟨173, by kernel_rfl, m74⟩), List.forall_mem_cons.mpr ⟨(fun f hf => by
    have e : some 133 = some f := hf
    cases e
    exact ⟨175, by kernel_rfl, m75⟩), List.forall_mem_cons.mpr ⟨(fun f hf => by
    have e : some 145 = some f := hf
    cases e
    exact ⟨181, by kernel_rfl, m76⟩), List.forall_mem_cons.mpr ⟨(fun f hf => by
    have e : some 91 = some f := hf
    cases e
    exact ⟨177, by kernel_rfl, m123⟩), List.forall_mem_cons.mpr ⟨(fun f hf => by
    have e : some 559 = some f := hf
    cases e
    exact ⟨183, by kernel_rfl, m164⟩), List.forall_mem_nil _⟩⟩⟩⟩⟩⟩⟩⟩⟩)

theorem callOk : CallOk Tryz.prog tab C := callW_ok (by kernel_rfl) progOk methOk
end Wm.Seat
