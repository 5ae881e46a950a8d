/- How the seat's functions are those of my table. -/
import Derived.Test.YtjcppjbepndjcaaChecked
import Derived.Test.YtjcppjbepndjcaaWmProgMarkFound
import Derived.Test.YtjcppjbepndjcaaWmMeth
set_option linter.all false
namespace Wm.Seat
open Wm Go Go.Proofs

def tab : Tab := { fn := [(9, 25), (47, 92), (48, 121), (44, 124), (43, 154), (45, 155), (46, 156), (49, 157), (123, 270), (82, 86), (93, 108), (83, 111), (125, 149), (124, 202), (126, 297), (40, 94), (103, 158), (84, 198), (102, 313), (104, 314), (105, 315), (94, 261), (60, 263), (106, 264), (109, 265), (90, 305), (107, 316), (110, 317), (111, 318), (112, 319), (113, 320), (114, 321), (115, 85), (116, 87), (117, 109), (122, 112), (119, 113), (118, 322), (120, 323), (121, 324), (127, 110), (101, 271), (142, 107), (148, 159), (146, 375), (136, 376), (149, 377), (150, 378), (154, 379), (108, 267), (151, 380), (152, 381), (155, 396), (156, 397), (157, 398), (98, 91), (166, 325), (167, 326), (168, 327), (172, 441), (153, 382), (169, 442), (173, 449), (89, 266), (147, 268), (99, 269), (188, 393), (189, 399), (190, 400), (191, 401), (92, 203), (192, 402), (193, 403), (170, 443), (171, 444), (144, 346), (145, 347), (97, 90), (194, 484), (165, 413), (42, 152), (100, 153), (34, 133), (95, 307), (85, 148), (33, 132), (28, 127), (37, 146), (39, 151), (35, 144), (29, 128), (38, 147), (41, 150), (36, 145), (86, 302), (88, 304), (91, 306), (87, 303), (55, 183), (96, 308), (56, 184)], ty := [], meth := [] }

theorem c9 : comp Try.prog tab F.withylaw13_MarkFound.closed F.withylaw13_MarkFound_hs Try.f9 = some F.withylaw13_MarkFound := by kernel_rfl
theorem g9 : FnOk Try.prog tab prog (9, 25) := FnOk.of (by kernel_rfl) (by kernel_rfl) Try.func9 c9

theorem c47 : comp Try.prog tab F.withyref06_Fit.closed F.withyref06_Fit_hs Try.f47 = some F.withyref06_Fit := by kernel_rfl
theorem g47 : FnOk Try.prog tab prog (47, 92) := FnOk.of (by kernel_rfl) (by kernel_rfl) Try.func47 c47

theorem c48 : comp Try.prog tab F.withyref13_Laid.closed F.withyref13_Laid_hs Try.f48 = some F.withyref13_Laid := by kernel_rfl
theorem g48 : FnOk Try.prog tab prog (48, 121) := FnOk.of (by kernel_rfl) (by kernel_rfl) Try.func48 c48

theorem c44 : comp Try.prog tab F.withyref13_Same.closed F.withyref13_Same_hs Try.f44 = some F.withyref13_Same := by kernel_rfl
theorem g44 : FnOk Try.prog tab prog (44, 124) := FnOk.of (by kernel_rfl) (by kernel_rfl) Try.func44 c44

theorem c43 : comp Try.prog tab F.withylaw13_awake.closed F.withylaw13_awake_hs Try.f43 = some F.withylaw13_awake := by kernel_rfl
theorem g43 : FnOk Try.prog tab prog (43, 154) := FnOk.of (by kernel_rfl) (by kernel_rfl) Try.func43 c43

theorem c45 : comp Try.prog tab F.mark_Found.closed F.mark_Found_hs Try.f45 = some F.mark_Found := by kernel_rfl
theorem g45 : FnOk Try.prog tab prog (45, 155) := FnOk.of (by kernel_rfl) (by kernel_rfl) Try.func45 c45

theorem c46 : comp Try.prog tab F.withyref13_Found.closed F.withyref13_Found_hs Try.f46 = some F.withyref13_Found := by kernel_rfl
theorem g46 : FnOk Try.prog tab prog (46, 156) := FnOk.of (by kernel_rfl) (by kernel_rfl) Try.func46 c46

theorem c49 : comp Try.prog tab F.withyref13_Sane.closed F.withyref13_Sane_hs Try.f49 = some F.withyref13_Sane := by kernel_rfl
theorem g49 : FnOk Try.prog tab prog (49, 157) := FnOk.of (by kernel_rfl) (by kernel_rfl) Try.func49 c49

theorem c123 : comp Try.prog tab F.withyref06_fit.closed F.withyref06_fit_hs Try.f123 = some F.withyref06_fit := by kernel_rfl
theorem g123 : FnOk Try.prog tab prog (123, 270) := FnOk.of (by kernel_rfl) (by kernel_rfl) Try.func123 c123

theorem c82 : comp Try.prog tab F.withyref06_Memory.closed F.withyref06_Memory_hs Try.f82 = some F.withyref06_Memory := by kernel_rfl
theorem g82 : FnOk Try.prog tab prog (82, 86) := FnOk.of (by kernel_rfl) (by kernel_rfl) Try.func82 c82

theorem c93 : comp Try.prog tab F.withyref06_At.closed F.withyref06_At_hs Try.f93 = some F.withyref06_At := by kernel_rfl
theorem g93 : FnOk Try.prog tab prog (93, 108) := FnOk.of (by kernel_rfl) (by kernel_rfl) Try.func93 c93

theorem c83 : comp Try.prog tab F.withyref04_Pack.closed F.withyref04_Pack_hs Try.f83 = some F.withyref04_Pack := by kernel_rfl
theorem g83 : FnOk Try.prog tab prog (83, 111) := FnOk.of (by kernel_rfl) (by kernel_rfl) Try.func83 c83

theorem c125 : comp Try.prog tab F.withyref06_Room.closed F.withyref06_Room_hs Try.f125 = some F.withyref06_Room := by kernel_rfl
theorem g125 : FnOk Try.prog tab prog (125, 149) := FnOk.of (by kernel_rfl) (by kernel_rfl) Try.func125 c125

theorem c124 : comp Try.prog tab F.withyref04_Right.closed F.withyref04_Right_hs Try.f124 = some F.withyref04_Right := by kernel_rfl
theorem g124 : FnOk Try.prog tab prog (124, 202) := FnOk.of (by kernel_rfl) (by kernel_rfl) Try.func124 c124

theorem c126 : comp Try.prog tab F.withyref13_Grays.closed F.withyref13_Grays_hs Try.f126 = some F.withyref13_Grays := by kernel_rfl
theorem g126 : FnOk Try.prog tab prog (126, 297) := FnOk.of (by kernel_rfl) (by kernel_rfl) Try.func126 c126

theorem c40 : comp Try.prog tab F.mem_Mem_Words.closed F.mem_Mem_Words_hs Try.f40 = some F.mem_Mem_Words := by kernel_rfl
theorem g40 : FnOk Try.prog tab prog (40, 94) := FnOk.of (by kernel_rfl) (by kernel_rfl) Try.func40 c40

theorem c103 : comp Try.prog tab F.mark_NewMark.closed F.mark_NewMark_hs Try.f103 = some F.mark_NewMark := by kernel_rfl
theorem g103 : FnOk Try.prog tab prog (103, 158) := FnOk.of (by kernel_rfl) (by kernel_rfl) Try.func103 c103

theorem c84 : comp Try.prog tab F.mem_Of.closed F.mem_Of_hs Try.f84 = some F.mem_Of := by kernel_rfl
theorem g84 : FnOk Try.prog tab prog (84, 198) := FnOk.of (by kernel_rfl) (by kernel_rfl) Try.func84 c84

theorem c102 : comp Try.prog tab F.withylaw13_small.closed F.withylaw13_small_hs Try.f102 = some F.withylaw13_small := by kernel_rfl
theorem g102 : FnOk Try.prog tab prog (102, 313) := FnOk.of (by kernel_rfl) (by kernel_rfl) Try.func102 c102

theorem c104 : comp Try.prog tab F.withylaw13_ends.closed F.withylaw13_ends_hs Try.f104 = some F.withylaw13_ends := by kernel_rfl
theorem g104 : FnOk Try.prog tab prog (104, 314) := FnOk.of (by kernel_rfl) (by kernel_rfl) Try.func104 c104

theorem c105 : comp Try.prog tab F.withylaw13_marked.closed F.withylaw13_marked_hs Try.f105 = some F.withylaw13_marked := by kernel_rfl
theorem g105 : FnOk Try.prog tab prog (105, 315) := FnOk.of (by kernel_rfl) (by kernel_rfl) Try.func105 c105

theorem c94 : comp Try.prog tab F.plan_Header.closed F.plan_Header_hs Try.f94 = some F.plan_Header := by kernel_rfl
theorem g94 : FnOk Try.prog tab prog (94, 261) := FnOk.of (by kernel_rfl) (by kernel_rfl) Try.func94 c94

theorem c60 : comp Try.prog tab F.plan_Right.closed F.plan_Right_hs Try.f60 = some F.plan_Right := by kernel_rfl
theorem g60 : FnOk Try.prog tab prog (60, 263) := FnOk.of (by kernel_rfl) (by kernel_rfl) Try.func60 c60

theorem c106 : comp Try.prog tab F.plan_Size.closed F.plan_Size_hs Try.f106 = some F.plan_Size := by kernel_rfl
theorem g106 : FnOk Try.prog tab prog (106, 264) := FnOk.of (by kernel_rfl) (by kernel_rfl) Try.func106 c106

theorem c109 : comp Try.prog tab F.head_Unpack.closed F.head_Unpack_hs Try.f109 = some F.head_Unpack := by kernel_rfl
theorem g109 : FnOk Try.prog tab prog (109, 265) := FnOk.of (by kernel_rfl) (by kernel_rfl) Try.func109 c109

theorem c90 : comp Try.prog tab F.plan_Body.closed F.plan_Body_hs Try.f90 = some F.plan_Body := by kernel_rfl
theorem g90 : FnOk Try.prog tab prog (90, 305) := FnOk.of (by kernel_rfl) (by kernel_rfl) Try.func90 c90

theorem c107 : comp Try.prog tab F.mark_Found_1.closed F.mark_Found_1_hs Try.f107 = some F.mark_Found_1 := by kernel_rfl
theorem g107 : FnOk Try.prog tab prog (107, 316) := FnOk.of (by kernel_rfl) (by kernel_rfl) Try.func107 c107

theorem c110 : comp Try.prog tab F.head_Marked.closed F.head_Marked_hs Try.f110 = some F.head_Marked := by kernel_rfl
theorem g110 : FnOk Try.prog tab prog (110, 317) := FnOk.of (by kernel_rfl) (by kernel_rfl) Try.func110 c110

theorem c111 : comp Try.prog tab F.tag_EntryParts.closed F.tag_EntryParts_hs Try.f111 = some F.tag_EntryParts := by kernel_rfl
theorem g111 : FnOk Try.prog tab prog (111, 318) := FnOk.of (by kernel_rfl) (by kernel_rfl) Try.func111 c111

theorem c112 : comp Try.prog tab F.plan_Entry.closed F.plan_Entry_hs Try.f112 = some F.plan_Entry := by kernel_rfl
theorem g112 : FnOk Try.prog tab prog (112, 319) := FnOk.of (by kernel_rfl) (by kernel_rfl) Try.func112 c112

theorem c113 : comp Try.prog tab F.mark_Mark_named.closed F.mark_Mark_named_hs Try.f113 = some F.mark_Mark_named := by kernel_rfl
theorem g113 : FnOk Try.prog tab prog (113, 320) := FnOk.of (by kernel_rfl) (by kernel_rfl) Try.func113 c113

theorem c114 : comp Try.prog tab F.plan_Start.closed F.plan_Start_hs Try.f114 = some F.plan_Start := by kernel_rfl
theorem g114 : FnOk Try.prog tab prog (114, 321) := FnOk.of (by kernel_rfl) (by kernel_rfl) Try.func114 c114

theorem c115 : comp Try.prog tab F.withyref06_Right.closed F.withyref06_Right_hs Try.f115 = some F.withyref06_Right := by kernel_rfl
theorem g115 : FnOk Try.prog tab prog (115, 85) := FnOk.of (by kernel_rfl) (by kernel_rfl) Try.func115 c115

theorem c116 : comp Try.prog tab F.withyref06_Words.closed F.withyref06_Words_hs Try.f116 = some F.withyref06_Words := by kernel_rfl
theorem g116 : FnOk Try.prog tab prog (116, 87) := FnOk.of (by kernel_rfl) (by kernel_rfl) Try.func116 c116

theorem c117 : comp Try.prog tab F.withyref04_Unpack.closed F.withyref04_Unpack_hs Try.f117 = some F.withyref04_Unpack := by kernel_rfl
theorem g117 : FnOk Try.prog tab prog (117, 109) := FnOk.of (by kernel_rfl) (by kernel_rfl) Try.func117 c117

theorem c122 : comp Try.prog tab F.withyref04_Lives.closed F.withyref04_Lives_hs Try.f122 = some F.withyref04_Lives := by kernel_rfl
theorem g122 : FnOk Try.prog tab prog (122, 112) := FnOk.of (by kernel_rfl) (by kernel_rfl) Try.func122 c122

theorem c119 : comp Try.prog tab F.withyref04_Marked.closed F.withyref04_Marked_hs Try.f119 = some F.withyref04_Marked := by kernel_rfl
theorem g119 : FnOk Try.prog tab prog (119, 113) := FnOk.of (by kernel_rfl) (by kernel_rfl) Try.func119 c119

theorem c118 : comp Try.prog tab F.withyref13_at.closed F.withyref13_at_hs Try.f118 = some F.withyref13_at := by kernel_rfl
theorem g118 : FnOk Try.prog tab prog (118, 322) := FnOk.of (by kernel_rfl) (by kernel_rfl) Try.func118 c118

theorem c120 : comp Try.prog tab F.withyref13_Roots.closed F.withyref13_Roots_hs Try.f120 = some F.withyref13_Roots := by kernel_rfl
theorem g120 : FnOk Try.prog tab prog (120, 323) := FnOk.of (by kernel_rfl) (by kernel_rfl) Try.func120 c120

theorem c121 : comp Try.prog tab F.withyref13_Names.closed F.withyref13_Names_hs Try.f121 = some F.withyref13_Names := by kernel_rfl
theorem g121 : FnOk Try.prog tab prog (121, 324) := FnOk.of (by kernel_rfl) (by kernel_rfl) Try.func121 c121

theorem c127 : comp Try.prog tab F.withyref03_Black.closed F.withyref03_Black_hs Try.f127 = some F.withyref03_Black := by kernel_rfl
theorem g127 : FnOk Try.prog tab prog (127, 110) := FnOk.of (by kernel_rfl) (by kernel_rfl) Try.func127 c127

theorem c101 : comp Try.prog tab F.slices_Clone___uint64_uint64_.closed F.slices_Clone___uint64_uint64__hs Try.f101 = some F.slices_Clone___uint64_uint64_ := by kernel_rfl
theorem g101 : FnOk Try.prog tab prog (101, 271) := FnOk.of (by kernel_rfl) (by kernel_rfl) Try.func101 c101

theorem c142 : comp Try.prog tab F.mem_Mem_Touches.closed F.mem_Mem_Touches_hs Try.f142 = some F.mem_Mem_Touches := by kernel_rfl
theorem g142 : FnOk Try.prog tab prog (142, 107) := FnOk.of (by kernel_rfl) (by kernel_rfl) Try.func142 c142

theorem c148 : comp Try.prog tab F.mark_Mark_Step.closed F.mark_Mark_Step_hs Try.f148 = some F.mark_Mark_Step := by kernel_rfl
theorem g148 : FnOk Try.prog tab prog (148, 159) := FnOk.of (by kernel_rfl) (by kernel_rfl) Try.func148 c148

theorem c146 : comp Try.prog tab F.plan_within.closed F.plan_within_hs Try.f146 = some F.plan_within := by kernel_rfl
theorem g146 : FnOk Try.prog tab prog (146, 375) := FnOk.of (by kernel_rfl) (by kernel_rfl) Try.func146 c146

theorem c136 : comp Try.prog tab F.plan_between.closed F.plan_between_hs Try.f136 = some F.plan_between := by kernel_rfl
theorem g136 : FnOk Try.prog tab prog (136, 376) := FnOk.of (by kernel_rfl) (by kernel_rfl) Try.func136 c136

theorem c149 : comp Try.prog tab F.plan_slots.closed F.plan_slots_hs Try.f149 = some F.plan_slots := by kernel_rfl
theorem g149 : FnOk Try.prog tab prog (149, 377) := FnOk.of (by kernel_rfl) (by kernel_rfl) Try.func149 c149

theorem c150 : comp Try.prog tab F.plan_room.closed F.plan_room_hs Try.f150 = some F.plan_room := by kernel_rfl
theorem g150 : FnOk Try.prog tab prog (150, 378) := FnOk.of (by kernel_rfl) (by kernel_rfl) Try.func150 c150

theorem c154 : comp Try.prog tab F.word_Unpack.closed F.word_Unpack_hs Try.f154 = some F.word_Unpack := by kernel_rfl
theorem g154 : FnOk Try.prog tab prog (154, 379) := FnOk.of (by kernel_rfl) (by kernel_rfl) Try.func154 c154

theorem c108 : comp Try.prog tab F.head_Shaded.closed F.head_Shaded_hs Try.f108 = some F.head_Shaded := by kernel_rfl
theorem g108 : FnOk Try.prog tab prog (108, 267) := FnOk.of (by kernel_rfl) (by kernel_rfl) Try.func108 c108

theorem c151 : comp Try.prog tab F.head_lives.closed F.head_lives_hs Try.f151 = some F.head_lives := by kernel_rfl
theorem g151 : FnOk Try.prog tab prog (151, 380) := FnOk.of (by kernel_rfl) (by kernel_rfl) Try.func151 c151

theorem c152 : comp Try.prog tab F.turn_Black.closed F.turn_Black_hs Try.f152 = some F.turn_Black := by kernel_rfl
theorem g152 : FnOk Try.prog tab prog (152, 381) := FnOk.of (by kernel_rfl) (by kernel_rfl) Try.func152 c152

theorem c155 : comp Try.prog tab F.word_Get.closed F.word_Get_hs Try.f155 = some F.word_Get := by kernel_rfl
theorem g155 : FnOk Try.prog tab prog (155, 396) := FnOk.of (by kernel_rfl) (by kernel_rfl) Try.func155 c155

theorem c156 : comp Try.prog tab F.plan_place.closed F.plan_place_hs Try.f156 = some F.plan_place := by kernel_rfl
theorem g156 : FnOk Try.prog tab prog (156, 397) := FnOk.of (by kernel_rfl) (by kernel_rfl) Try.func156 c156

theorem c157 : comp Try.prog tab F.withyref13_named.closed F.withyref13_named_hs Try.f157 = some F.withyref13_named := by kernel_rfl
theorem g157 : FnOk Try.prog tab prog (157, 398) := FnOk.of (by kernel_rfl) (by kernel_rfl) Try.func157 c157

theorem c98 : comp Try.prog tab F.shade_Shade_Step.closed F.shade_Shade_Step_hs Try.f98 = some F.shade_Shade_Step := by kernel_rfl
theorem g98 : FnOk Try.prog tab prog (98, 91) := FnOk.of (by kernel_rfl) (by kernel_rfl) Try.func98 c98

theorem c166 : comp Try.prog tab F.mark_Mark_roots.closed F.mark_Mark_roots_hs Try.f166 = some F.mark_Mark_roots := by kernel_rfl
theorem g166 : FnOk Try.prog tab prog (166, 325) := FnOk.of (by kernel_rfl) (by kernel_rfl) Try.func166 c166

theorem c167 : comp Try.prog tab F.mark_Mark_pass.closed F.mark_Mark_pass_hs Try.f167 = some F.mark_Mark_pass := by kernel_rfl
theorem g167 : FnOk Try.prog tab prog (167, 326) := FnOk.of (by kernel_rfl) (by kernel_rfl) Try.func167 c167

theorem c168 : comp Try.prog tab F.mark_Mark_through.closed F.mark_Mark_through_hs Try.f168 = some F.mark_Mark_through := by kernel_rfl
theorem g168 : FnOk Try.prog tab prog (168, 327) := FnOk.of (by kernel_rfl) (by kernel_rfl) Try.func168 c168

theorem c172 : comp Try.prog tab F.word_some.closed F.word_some_hs Try.f172 = some F.word_some := by kernel_rfl
theorem g172 : FnOk Try.prog tab prog (172, 441) := FnOk.of (by kernel_rfl) (by kernel_rfl) Try.func172 c172

theorem c153 : comp Try.prog tab F.head_Pack.closed F.head_Pack_hs Try.f153 = some F.head_Pack := by kernel_rfl
theorem g153 : FnOk Try.prog tab prog (153, 382) := FnOk.of (by kernel_rfl) (by kernel_rfl) Try.func153 c153

theorem c169 : comp Try.prog tab F.turn_Cycle.closed F.turn_Cycle_hs Try.f169 = some F.turn_Cycle := by kernel_rfl
theorem g169 : FnOk Try.prog tab prog (169, 442) := FnOk.of (by kernel_rfl) (by kernel_rfl) Try.func169 c169

theorem c173 : comp Try.prog tab F.word_mask.closed F.word_mask_hs Try.f173 = some F.word_mask := by kernel_rfl
theorem g173 : FnOk Try.prog tab prog (173, 449) := FnOk.of (by kernel_rfl) (by kernel_rfl) Try.func173 c173

theorem c89 : comp Try.prog tab F.mem_Mem_Load.closed F.mem_Mem_Load_hs Try.f89 = some F.mem_Mem_Load := by kernel_rfl
theorem g89 : FnOk Try.prog tab prog (89, 266) := FnOk.of (by kernel_rfl) (by kernel_rfl) Try.func89 c89

theorem c147 : comp Try.prog tab F.mem_Mem_Add.closed F.mem_Mem_Add_hs Try.f147 = some F.mem_Mem_Add := by kernel_rfl
theorem g147 : FnOk Try.prog tab prog (147, 268) := FnOk.of (by kernel_rfl) (by kernel_rfl) Try.func147 c147

theorem c99 : comp Try.prog tab F.mem_Mem_Swap.closed F.mem_Mem_Swap_hs Try.f99 = some F.mem_Mem_Swap := by kernel_rfl
theorem g99 : FnOk Try.prog tab prog (99, 269) := FnOk.of (by kernel_rfl) (by kernel_rfl) Try.func99 c99

theorem c188 : comp Try.prog tab F.plan_View.closed F.plan_View_hs Try.f188 = some F.plan_View := by kernel_rfl
theorem g188 : FnOk Try.prog tab prog (188, 393) := FnOk.of (by kernel_rfl) (by kernel_rfl) Try.func188 c188

theorem c189 : comp Try.prog tab F.mark_Mark_client.closed F.mark_Mark_client_hs Try.f189 = some F.mark_Mark_client := by kernel_rfl
theorem g189 : FnOk Try.prog tab prog (189, 399) := FnOk.of (by kernel_rfl) (by kernel_rfl) Try.func189 c189

theorem c190 : comp Try.prog tab F.mark_Mark_finds.closed F.mark_Mark_finds_hs Try.f190 = some F.mark_Mark_finds := by kernel_rfl
theorem g190 : FnOk Try.prog tab prog (190, 400) := FnOk.of (by kernel_rfl) (by kernel_rfl) Try.func190 c190

theorem c191 : comp Try.prog tab F.mark_Mark_look.closed F.mark_Mark_look_hs Try.f191 = some F.mark_Mark_look := by kernel_rfl
theorem g191 : FnOk Try.prog tab prog (191, 401) := FnOk.of (by kernel_rfl) (by kernel_rfl) Try.func191 c191

theorem c92 : comp Try.prog tab F.mem_Mem_Store.closed F.mem_Mem_Store_hs Try.f92 = some F.mem_Mem_Store := by kernel_rfl
theorem g92 : FnOk Try.prog tab prog (92, 203) := FnOk.of (by kernel_rfl) (by kernel_rfl) Try.func92 c92

theorem c192 : comp Try.prog tab F.head_Blackened.closed F.head_Blackened_hs Try.f192 = some F.head_Blackened := by kernel_rfl
theorem g192 : FnOk Try.prog tab prog (192, 402) := FnOk.of (by kernel_rfl) (by kernel_rfl) Try.func192 c192

theorem c193 : comp Try.prog tab F.mark_Mark_onward.closed F.mark_Mark_onward_hs Try.f193 = some F.mark_Mark_onward := by kernel_rfl
theorem g193 : FnOk Try.prog tab prog (193, 403) := FnOk.of (by kernel_rfl) (by kernel_rfl) Try.func193 c193

theorem c170 : comp Try.prog tab F.word_Pack.closed F.word_Pack_hs Try.f170 = some F.word_Pack := by kernel_rfl
theorem g170 : FnOk Try.prog tab prog (170, 443) := FnOk.of (by kernel_rfl) (by kernel_rfl) Try.func170 c170

theorem c171 : comp Try.prog tab F.head_bit.closed F.head_bit_hs Try.f171 = some F.head_bit := by kernel_rfl
theorem g171 : FnOk Try.prog tab prog (171, 444) := FnOk.of (by kernel_rfl) (by kernel_rfl) Try.func171 c171

theorem c144 : comp Try.prog tab F.mem_Mem_there.closed F.mem_Mem_there_hs Try.f144 = some F.mem_Mem_there := by kernel_rfl
theorem g144 : FnOk Try.prog tab prog (144, 346) := FnOk.of (by kernel_rfl) (by kernel_rfl) Try.func144 c144

theorem c145 : comp Try.prog tab F.mem_Mem_touch.closed F.mem_Mem_touch_hs Try.f145 = some F.mem_Mem_touch := by kernel_rfl
theorem g145 : FnOk Try.prog tab prog (145, 347) := FnOk.of (by kernel_rfl) (by kernel_rfl) Try.func145 c145

theorem c97 : comp Try.prog tab F.shade_NewShade.closed F.shade_NewShade_hs Try.f97 = some F.shade_NewShade := by kernel_rfl
theorem g97 : FnOk Try.prog tab prog (97, 90) := FnOk.of (by kernel_rfl) (by kernel_rfl) Try.func97 c97

theorem c194 : comp Try.prog tab F.word_Fits.closed F.word_Fits_hs Try.f194 = some F.word_Fits := by kernel_rfl
theorem g194 : FnOk Try.prog tab prog (194, 484) := FnOk.of (by kernel_rfl) (by kernel_rfl) Try.func194 c194

theorem c165 : comp Try.prog tab F.mem_Mem_Size.closed F.mem_Mem_Size_hs Try.f165 = some F.mem_Mem_Size := by kernel_rfl
theorem g165 : FnOk Try.prog tab prog (165, 413) := FnOk.of (by kernel_rfl) (by kernel_rfl) Try.func165 c165

theorem c42 : comp Try.prog tab F.field_Book_Born.closed F.field_Book_Born_hs Try.f42 = some F.field_Book_Born := by kernel_rfl
theorem g42 : FnOk Try.prog tab prog (42, 152) := FnOk.of (by kernel_rfl) (by kernel_rfl) Try.func42 c42

theorem c100 : comp Try.prog tab F.field_Book_Turned.closed F.field_Book_Turned_hs Try.f100 = some F.field_Book_Turned := by kernel_rfl
theorem g100 : FnOk Try.prog tab prog (100, 153) := FnOk.of (by kernel_rfl) (by kernel_rfl) Try.func100 c100

theorem c34 : comp Try.prog tab F.field_Lay_Step.closed F.field_Lay_Step_hs Try.f34 = some F.field_Lay_Step := by kernel_rfl
theorem g34 : FnOk Try.prog tab prog (34, 133) := FnOk.of (by kernel_rfl) (by kernel_rfl) Try.func34 c34

theorem c95 : comp Try.prog tab F.field_Lay_refuse.closed F.field_Lay_refuse_hs Try.f95 = some F.field_Lay_refuse := by kernel_rfl
theorem g95 : FnOk Try.prog tab prog (95, 307) := FnOk.of (by kernel_rfl) (by kernel_rfl) Try.func95 c95

theorem c85 : comp Try.prog tab F.field_NewBook.closed F.field_NewBook_hs Try.f85 = some F.field_NewBook := by kernel_rfl
theorem g85 : FnOk Try.prog tab prog (85, 148) := FnOk.of (by kernel_rfl) (by kernel_rfl) Try.func85 c85

theorem c33 : comp Try.prog tab F.field_NewLay.closed F.field_NewLay_hs Try.f33 = some F.field_NewLay := by kernel_rfl
theorem g33 : FnOk Try.prog tab prog (33, 132) := FnOk.of (by kernel_rfl) (by kernel_rfl) Try.func33 c33

theorem c28 : comp Try.prog tab F.field_NewRead.closed F.field_NewRead_hs Try.f28 = some F.field_NewRead := by kernel_rfl
theorem g28 : FnOk Try.prog tab prog (28, 127) := FnOk.of (by kernel_rfl) (by kernel_rfl) Try.func28 c28

theorem c37 : comp Try.prog tab F.field_NewSee.closed F.field_NewSee_hs Try.f37 = some F.field_NewSee := by kernel_rfl
theorem g37 : FnOk Try.prog tab prog (37, 146) := FnOk.of (by kernel_rfl) (by kernel_rfl) Try.func37 c37

theorem c39 : comp Try.prog tab F.field_NewStamp.closed F.field_NewStamp_hs Try.f39 = some F.field_NewStamp := by kernel_rfl
theorem g39 : FnOk Try.prog tab prog (39, 151) := FnOk.of (by kernel_rfl) (by kernel_rfl) Try.func39 c39

theorem c35 : comp Try.prog tab F.field_NewTurn.closed F.field_NewTurn_hs Try.f35 = some F.field_NewTurn := by kernel_rfl
theorem g35 : FnOk Try.prog tab prog (35, 144) := FnOk.of (by kernel_rfl) (by kernel_rfl) Try.func35 c35

theorem c29 : comp Try.prog tab F.field_Read_Step.closed F.field_Read_Step_hs Try.f29 = some F.field_Read_Step := by kernel_rfl
theorem g29 : FnOk Try.prog tab prog (29, 128) := FnOk.of (by kernel_rfl) (by kernel_rfl) Try.func29 c29

theorem c38 : comp Try.prog tab F.field_See_Step.closed F.field_See_Step_hs Try.f38 = some F.field_See_Step := by kernel_rfl
theorem g38 : FnOk Try.prog tab prog (38, 147) := FnOk.of (by kernel_rfl) (by kernel_rfl) Try.func38 c38

theorem c41 : comp Try.prog tab F.field_Stamp_Step.closed F.field_Stamp_Step_hs Try.f41 = some F.field_Stamp_Step := by kernel_rfl
theorem g41 : FnOk Try.prog tab prog (41, 150) := FnOk.of (by kernel_rfl) (by kernel_rfl) Try.func41 c41

theorem c36 : comp Try.prog tab F.field_Turn_Step.closed F.field_Turn_Step_hs Try.f36 = some F.field_Turn_Step := by kernel_rfl
theorem g36 : FnOk Try.prog tab prog (36, 145) := FnOk.of (by kernel_rfl) (by kernel_rfl) Try.func36 c36

theorem c86 : comp Try.prog tab F.field_fresh.closed F.field_fresh_hs Try.f86 = some F.field_fresh := by kernel_rfl
theorem g86 : FnOk Try.prog tab prog (86, 302) := FnOk.of (by kernel_rfl) (by kernel_rfl) Try.func86 c86

theorem c88 : comp Try.prog tab F.field_named.closed F.field_named_hs Try.f88 = some F.field_named := by kernel_rfl
theorem g88 : FnOk Try.prog tab prog (88, 304) := FnOk.of (by kernel_rfl) (by kernel_rfl) Try.func88 c88

theorem c91 : comp Try.prog tab F.field_newest_point.closed F.field_newest_point_hs Try.f91 = some F.field_newest_point := by kernel_rfl
theorem g91 : FnOk Try.prog tab prog (91, 306) := FnOk.of (by kernel_rfl) (by kernel_rfl) Try.func91 c91

theorem c87 : comp Try.prog tab F.field_newest_step.closed F.field_newest_step_hs Try.f87 = some F.field_newest_step := by kernel_rfl
theorem g87 : FnOk Try.prog tab prog (87, 303) := FnOk.of (by kernel_rfl) (by kernel_rfl) Try.func87 c87

theorem c55 : comp Try.prog tab F.hist_Ahead.closed F.hist_Ahead_hs Try.f55 = some F.hist_Ahead := by kernel_rfl
theorem g55 : FnOk Try.prog tab prog (55, 183) := FnOk.of (by kernel_rfl) (by kernel_rfl) Try.func55 c55

theorem c96 : comp Try.prog tab F.turn_Fenced.closed F.turn_Fenced_hs Try.f96 = some F.turn_Fenced := by kernel_rfl
theorem g96 : FnOk Try.prog tab prog (96, 308) := FnOk.of (by kernel_rfl) (by kernel_rfl) Try.func96 c96

theorem c56 : comp Try.prog tab F.withyref18_Ahead.closed F.withyref18_Ahead_hs Try.f56 = some F.withyref18_Ahead := by kernel_rfl
theorem g56 : FnOk Try.prog tab prog (56, 184) := FnOk.of (by kernel_rfl) (by kernel_rfl) Try.func56 c56

theorem progOk : ProgOk Try.prog tab prog := ProgOk.of_fn (l := tab.fn) rfl (by
  unfold tab
  exact List.forall_mem_cons.mpr ⟨g9, List.forall_mem_cons.mpr ⟨g47, List.forall_mem_cons.mpr ⟨g48, List.forall_mem_cons.mpr ⟨g44, List.forall_mem_cons.mpr ⟨g43, List.forall_mem_cons.mpr ⟨g45, List.forall_mem_cons.mpr ⟨g46, List.forall_mem_cons.mpr ⟨g49, List.forall_mem_cons.mpr ⟨g123, List.forall_mem_cons.mpr ⟨g82, List.forall_mem_cons.mpr ⟨g93, List.forall_mem_cons.mpr ⟨g83, List.forall_mem_cons.mpr ⟨g125, List.forall_mem_cons.mpr ⟨g124, List.forall_mem_cons.mpr ⟨g126, List.forall_mem_cons.mpr ⟨g40, List.forall_mem_cons.mpr ⟨g103, List.forall_mem_cons.mpr ⟨g84, List.forall_mem_cons.mpr ⟨g102, List.forall_mem_cons.mpr ⟨g104, List.forall_mem_cons.mpr ⟨g105, List.forall_mem_cons.mpr ⟨g94, List.forall_mem_cons.mpr ⟨g60, List.forall_mem_cons.mpr ⟨g106, List.forall_mem_cons.mpr ⟨g109, List.forall_mem_cons.mpr ⟨g90, List.forall_mem_cons.mpr ⟨g107, List.forall_mem_cons.mpr ⟨g110, List.forall_mem_cons.mpr ⟨g111, List.forall_mem_cons.mpr ⟨g112, List.forall_mem_cons.mpr ⟨g113, List.forall_mem_cons.mpr ⟨g114, List.forall_mem_cons.mpr ⟨g115, List.forall_mem_cons.mpr ⟨g116, List.forall_mem_cons.mpr ⟨g117, List.forall_mem_cons.mpr ⟨g122, List.forall_mem_cons.mpr ⟨g119, List.forall_mem_cons.mpr ⟨g118, List.forall_mem_cons.mpr ⟨g120, List.forall_mem_cons.mpr ⟨g121, List.forall_mem_cons.mpr ⟨g127, List.forall_mem_cons.mpr ⟨g101, List.forall_mem_cons.mpr ⟨g142, List.forall_mem_cons.mpr ⟨g148, List.forall_mem_cons.mpr ⟨g146, List.forall_mem_cons.mpr ⟨g136, List.forall_mem_cons.mpr ⟨g149, List.forall_mem_cons.mpr ⟨g150, List.forall_mem_cons.mpr ⟨g154, List.forall_mem_cons.mpr ⟨g108, List.forall_mem_cons.mpr ⟨g151, List.forall_mem_cons.mpr ⟨g152, List.forall_mem_cons.mpr ⟨g155, List.forall_mem_cons.mpr ⟨g156, List.forall_mem_cons.mpr ⟨g157, List.forall_mem_cons.mpr ⟨g98, List.forall_mem_cons.mpr ⟨g166, List.forall_mem_cons.mpr ⟨g167, List.forall_mem_cons.mpr ⟨g168, List.forall_mem_cons.mpr ⟨g172, List.forall_mem_cons.mpr ⟨g153, List.forall_mem_cons.mpr ⟨g169, List.forall_mem_cons.mpr ⟨g173, List.forall_mem_cons.mpr ⟨g89, List.forall_mem_cons.mpr ⟨g147, List.forall_mem_cons.mpr ⟨g99, List.forall_mem_cons.mpr ⟨g188, List.forall_mem_cons.mpr ⟨g189, List.forall_mem_cons.mpr ⟨g190, List.forall_mem_cons.mpr ⟨g191, List.forall_mem_cons.mpr ⟨g92, List.forall_mem_cons.mpr ⟨g192, List.forall_mem_cons.mpr ⟨g193, List.forall_mem_cons.mpr ⟨g170, List.forall_mem_cons.mpr ⟨g171, List.forall_mem_cons.mpr ⟨g144, List.forall_mem_cons.mpr ⟨g145, List.forall_mem_cons.mpr ⟨g97, List.forall_mem_cons.mpr ⟨g194, List.forall_mem_cons.mpr ⟨g165, List.forall_mem_cons.mpr ⟨g42, List.forall_mem_cons.mpr ⟨g100, List.forall_mem_cons.mpr ⟨g34, List.forall_mem_cons.mpr ⟨g95, List.forall_mem_cons.mpr ⟨g85, List.forall_mem_cons.mpr ⟨g33, List.forall_mem_cons.mpr ⟨g28, List.forall_mem_cons.mpr ⟨g37, List.forall_mem_cons.mpr ⟨g39, List.forall_mem_cons.mpr ⟨g35, List.forall_mem_cons.mpr ⟨g29, List.forall_mem_cons.mpr ⟨g38, List.forall_mem_cons.mpr ⟨g41, List.forall_mem_cons.mpr ⟨g36, List.forall_mem_cons.mpr ⟨g86, List.forall_mem_cons.mpr ⟨g88, List.forall_mem_cons.mpr ⟨g91, List.forall_mem_cons.mpr ⟨g87, List.forall_mem_cons.mpr ⟨g55, List.forall_mem_cons.mpr ⟨g96, List.forall_mem_cons.mpr ⟨g56, List.forall_mem_nil _⟩⟩⟩⟩⟩⟩⟩⟩⟩⟩⟩⟩⟩⟩⟩⟩⟩⟩⟩⟩⟩⟩⟩⟩⟩⟩⟩⟩⟩⟩⟩⟩⟩⟩⟩⟩⟩⟩⟩⟩⟩⟩⟩⟩⟩⟩⟩⟩⟩⟩⟩⟩⟩⟩⟩⟩⟩⟩⟩⟩⟩⟩⟩⟩⟩⟩⟩⟩⟩⟩⟩⟩⟩⟩⟩⟩⟩⟩⟩⟩⟩⟩⟩⟩⟩⟩⟩⟩⟩⟩⟩⟩⟩⟩⟩⟩⟩⟩⟩⟩⟩)

theorem methOk : MethOk Try.prog tab meth := fun T t mm m f _ h => by simp [tab, assocS] at h

theorem callOk : CallOk Try.prog tab C := callW_ok (by kernel_rfl) progOk methOk
end Wm.Seat
