/- How the seat's functions are those of my table. -/
import Derived.Test.YthkimcdeejjmbaaChecked
import Derived.Test.YthkimcdeejjmbaaWmProgLinSearches
import Derived.Test.YthkimcdeejjmbaaWmMeth
set_option linter.all false
namespace Wm.Seat
open Wm Go Go.Proofs
def tab : Tab := { fn := [(9, 45), (42, 85), (49, 186), (41, 204), (46, 207), (48, 208), (50, 209), (89, 184), (43, 205), (44, 206), (86, 348), (90, 99), (91, 102), (14, 96), (19, 103), (18, 115), (59, 263), (93, 349), (87, 178), (88, 181), (135, 229), (134, 274), (136, 275), (137, 276), (138, 277), (139, 278), (65, 82), (68, 83), (63, 279), (64, 280), (66, 281), (67, 282), (69, 283), (70, 284), (60, 285), (61, 286), (62, 287), (104, 376), (129, 183), (85, 331), (126, 332), (127, 333), (130, 335), (131, 336), (161, 231), (20, 105), (21, 106), (22, 116), (106, 383), (107, 384), (108, 385), (109, 386), (125, 404), (157, 405), (158, 406), (128, 334), (160, 408), (132, 337), (133, 338), (151, 445), (171, 450), (172, 451), (173, 452), (174, 453), (175, 454), (176, 455), (177, 456), (178, 457), (179, 458), (180, 459), (159, 407), (181, 460), (165, 485), (166, 486), (185, 487), (186, 488), (187, 489), (188, 490), (189, 491), (190, 492), (191, 512), (192, 513)], ty := [(9, 9), (107, 159)], meth := [] }
theorem gc {k i : Nat} {cl : Bool} {hs : z7f} {fn : Func} {l : List (Nat × Nat)} (af : AFunc) (e : af = cf cl hs fn) (hf : prog i = some af) (hc : Try.prog.funcs[k]? = some fn) (h : (zdq Try.prog k && (comp Try.prog tab cl hs fn).isSome) = true) (t : ∀ p ∈ l, FnOk Try.prog tab prog p) : ∀ p ∈ (k, i) :: l, FnOk Try.prog tab prog p := by
 subst e
 rw [Bool.and_eq_true] at h
 exact List.forall_mem_cons.mpr ⟨FnOk.of hf h.1 hc (z06r h.2), t⟩
theorem progOk : ProgOk Try.prog tab prog := ProgOk.of_fn (l := tab.fn) rfl <|
 gc F.z07 rfl (by kernel_rfl) Try.func9 (by kernel_rfl) <|
 gc F.z4x rfl (by kernel_rfl) Try.func42 (by kernel_rfl) <|
 gc F.z0t rfl (by kernel_rfl) Try.func49 (by kernel_rfl) <|
 gc F.zdv rfl (by kernel_rfl) Try.func41 (by kernel_rfl) <|
 gc F.z27 rfl (by kernel_rfl) Try.func46 (by kernel_rfl) <|
 gc F.z5c rfl (by kernel_rfl) Try.func48 (by kernel_rfl) <|
 gc F.z1g rfl (by kernel_rfl) Try.func50 (by kernel_rfl) <|
 gc F.z51 rfl (by kernel_rfl) Try.func89 (by kernel_rfl) <|
 gc F.zqr rfl (by kernel_rfl) Try.func43 (by kernel_rfl) <|
 gc F.zq1 rfl (by kernel_rfl) Try.func44 (by kernel_rfl) <|
 gc F.zf9 rfl (by kernel_rfl) Try.func86 (by kernel_rfl) <|
 gc F.z6r rfl (by kernel_rfl) Try.func90 (by kernel_rfl) <|
 gc F.zk rfl (by kernel_rfl) Try.func91 (by kernel_rfl) <|
 gc F.z9l rfl (by kernel_rfl) Try.func14 (by kernel_rfl) <|
 gc F.z1t rfl (by kernel_rfl) Try.func19 (by kernel_rfl) <|
 gc F.z1r rfl (by kernel_rfl) Try.func18 (by kernel_rfl) <|
 gc F.zbv rfl (by kernel_rfl) Try.func59 (by kernel_rfl) <|
 gc F.zbq rfl (by kernel_rfl) Try.func93 (by kernel_rfl) <|
 gc F.zq5 rfl (by kernel_rfl) Try.func87 (by kernel_rfl) <|
 gc F.zqu rfl (by kernel_rfl) Try.func88 (by kernel_rfl) <|
 gc F.z19 rfl (by kernel_rfl) Try.func135 (by kernel_rfl) <|
 gc F.zr rfl (by kernel_rfl) Try.func134 (by kernel_rfl) <|
 gc F.z14 rfl (by kernel_rfl) Try.func136 (by kernel_rfl) <|
 gc F.z0v rfl (by kernel_rfl) Try.func137 (by kernel_rfl) <|
 gc F.z2a rfl (by kernel_rfl) Try.func138 (by kernel_rfl) <|
 gc F.z05 rfl (by kernel_rfl) Try.func139 (by kernel_rfl) <|
 gc F.zfv rfl (by kernel_rfl) Try.func65 (by kernel_rfl) <|
 gc F.zdc rfl (by kernel_rfl) Try.func68 (by kernel_rfl) <|
 gc F.z37 rfl (by kernel_rfl) Try.func63 (by kernel_rfl) <|
 gc F.z1x rfl (by kernel_rfl) Try.func64 (by kernel_rfl) <|
 gc F.z25 rfl (by kernel_rfl) Try.func66 (by kernel_rfl) <|
 gc F.z0i rfl (by kernel_rfl) Try.func67 (by kernel_rfl) <|
 gc F.z3n rfl (by kernel_rfl) Try.func69 (by kernel_rfl) <|
 gc F.z0h rfl (by kernel_rfl) Try.func70 (by kernel_rfl) <|
 gc F.z0c rfl (by kernel_rfl) Try.func60 (by kernel_rfl) <|
 gc F.z0b rfl (by kernel_rfl) Try.func61 (by kernel_rfl) <|
 gc F.z26 rfl (by kernel_rfl) Try.func62 (by kernel_rfl) <|
 gc F.z9h rfl (by kernel_rfl) Try.func104 (by kernel_rfl) <|
 gc F.zbt rfl (by kernel_rfl) Try.func129 (by kernel_rfl) <|
 gc F.z1k rfl (by kernel_rfl) Try.func85 (by kernel_rfl) <|
 gc F.za2 rfl (by kernel_rfl) Try.func126 (by kernel_rfl) <|
 gc F.zns rfl (by kernel_rfl) Try.func127 (by kernel_rfl) <|
 gc F.z6m rfl (by kernel_rfl) Try.func130 (by kernel_rfl) <|
 gc F.zml rfl (by kernel_rfl) Try.func131 (by kernel_rfl) <|
 gc F.z18 rfl (by kernel_rfl) Try.func161 (by kernel_rfl) <|
 gc F.z45 rfl (by kernel_rfl) Try.func20 (by kernel_rfl) <|
 gc F.z3a rfl (by kernel_rfl) Try.func21 (by kernel_rfl) <|
 gc F.z1w rfl (by kernel_rfl) Try.func22 (by kernel_rfl) <|
 gc F.z2y rfl (by kernel_rfl) Try.func106 (by kernel_rfl) <|
 gc F.z0r rfl (by kernel_rfl) Try.func107 (by kernel_rfl) <|
 gc F.z56 rfl (by kernel_rfl) Try.func108 (by kernel_rfl) <|
 gc F.z12 rfl (by kernel_rfl) Try.func109 (by kernel_rfl) <|
 gc F.z0w rfl (by kernel_rfl) Try.func125 (by kernel_rfl) <|
 gc F.zab rfl (by kernel_rfl) Try.func157 (by kernel_rfl) <|
 gc F.zk6 rfl (by kernel_rfl) Try.func158 (by kernel_rfl) <|
 gc F.zfq rfl (by kernel_rfl) Try.func128 (by kernel_rfl) <|
 gc F.zar rfl (by kernel_rfl) Try.func160 (by kernel_rfl) <|
 gc F.zp8 rfl (by kernel_rfl) Try.func132 (by kernel_rfl) <|
 gc F.zow rfl (by kernel_rfl) Try.func133 (by kernel_rfl) <|
 gc F.zfk rfl (by kernel_rfl) Try.func151 (by kernel_rfl) <|
 gc F.z6l rfl (by kernel_rfl) Try.func171 (by kernel_rfl) <|
 gc F.z9d rfl (by kernel_rfl) Try.func172 (by kernel_rfl) <|
 gc F.z6k rfl (by kernel_rfl) Try.func173 (by kernel_rfl) <|
 gc F.z74 rfl (by kernel_rfl) Try.func174 (by kernel_rfl) <|
 gc F.z6z rfl (by kernel_rfl) Try.func175 (by kernel_rfl) <|
 gc F.z49 rfl (by kernel_rfl) Try.func176 (by kernel_rfl) <|
 gc F.z6c rfl (by kernel_rfl) Try.func177 (by kernel_rfl) <|
 gc F.z8e rfl (by kernel_rfl) Try.func178 (by kernel_rfl) <|
 gc F.zhd rfl (by kernel_rfl) Try.func179 (by kernel_rfl) <|
 gc F.zhe rfl (by kernel_rfl) Try.func180 (by kernel_rfl) <|
 gc F.zib rfl (by kernel_rfl) Try.func159 (by kernel_rfl) <|
 gc F.z98 rfl (by kernel_rfl) Try.func181 (by kernel_rfl) <|
 gc F.zgl rfl (by kernel_rfl) Try.func165 (by kernel_rfl) <|
 gc F.zh8 rfl (by kernel_rfl) Try.func166 (by kernel_rfl) <|
 gc F.z8o rfl (by kernel_rfl) Try.func185 (by kernel_rfl) <|
 gc F.zcj rfl (by kernel_rfl) Try.func186 (by kernel_rfl) <|
 gc F.zdz rfl (by kernel_rfl) Try.func187 (by kernel_rfl) <|
 gc F.z6a rfl (by kernel_rfl) Try.func188 (by kernel_rfl) <|
 gc F.zas rfl (by kernel_rfl) Try.func189 (by kernel_rfl) <|
 gc F.zal rfl (by kernel_rfl) Try.func190 (by kernel_rfl) <|
 gc F.zaq rfl (by kernel_rfl) Try.func191 (by kernel_rfl) <|
 gc F.z89 rfl (by kernel_rfl) Try.func192 (by kernel_rfl) <|
 List.forall_mem_nil _
theorem methOk : MethOk Try.prog tab meth := fun T t mm m f _ h => by simp [tab, znr] at h
theorem callOk : z9o Try.prog tab C := z04j (by kernel_rfl) progOk methOk
end Wm.Seat
