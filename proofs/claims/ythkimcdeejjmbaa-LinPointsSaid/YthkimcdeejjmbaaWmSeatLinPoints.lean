/- How the seat's functions are those of my table. -/
import Derived.Test.YthkimcdeejjmbaaChecked
import Derived.Test.YthkimcdeejjmbaaWmProgLinPoints
import Derived.Test.YthkimcdeejjmbaaWmMeth
set_option linter.all false
namespace Wm.Seat
open Wm Go Go.Proofs
def tab : Tab := { fn := [(10, 46), (49, 186), (41, 204), (43, 205), (44, 206), (48, 208), (89, 184), (86, 348), (14, 96), (19, 103), (87, 178), (88, 181), (59, 263), (18, 115), (93, 349), (65, 82), (68, 83), (63, 279), (64, 280), (66, 281), (67, 282), (69, 283), (70, 284), (129, 183), (126, 332), (127, 333), (130, 335), (131, 336), (104, 376), (60, 285), (61, 286), (62, 287), (85, 331), (20, 105), (21, 106), (22, 116), (106, 383), (107, 384), (108, 385), (109, 386), (157, 405), (158, 406), (128, 334), (160, 408), (132, 337), (133, 338), (125, 404), (151, 445), (171, 450), (172, 451), (173, 452), (174, 453), (175, 454), (176, 455), (177, 456), (178, 457), (179, 458), (180, 459), (159, 407), (181, 460), (165, 485), (166, 486), (185, 487), (186, 488), (187, 489), (188, 490), (189, 491), (190, 492), (191, 512), (192, 513)], ty := [(9, 9), (107, 159)], meth := [] }
theorem gc {k i : Nat} {cl : Bool} {hs : z9m} {fn : Func} {l : List (Nat × Nat)} (af : AFunc) (e : af = cf cl hs fn) (hf : prog i = some af) (hc : Try.prog.funcs[k]? = some fn) (h : (zg4 Try.prog k && (comp Try.prog tab cl hs fn).isSome) = true) (t : ∀ p ∈ l, FnOk Try.prog tab prog p) : ∀ p ∈ (k, i) :: l, FnOk Try.prog tab prog p := by
 subst e
 rw [Bool.and_eq_true] at h
 exact List.forall_mem_cons.mpr ⟨FnOk.of hf h.1 hc (z0cm h.2), t⟩
theorem progOk : ProgOk Try.prog tab prog := ProgOk.of_fn (l := tab.fn) rfl <|
 gc F.z49 rfl (by kernel_rfl) Try.func10 (by kernel_rfl) <|
 gc F.z0z rfl (by kernel_rfl) Try.func49 (by kernel_rfl) <|
 gc F.zg3 rfl (by kernel_rfl) Try.func41 (by kernel_rfl) <|
 gc F.z9z rfl (by kernel_rfl) Try.func43 (by kernel_rfl) <|
 gc F.ze8 rfl (by kernel_rfl) Try.func44 (by kernel_rfl) <|
 gc F.z9i rfl (by kernel_rfl) Try.func48 (by kernel_rfl) <|
 gc F.z6y rfl (by kernel_rfl) Try.func89 (by kernel_rfl) <|
 gc F.zjb rfl (by kernel_rfl) Try.func86 (by kernel_rfl) <|
 gc F.zbm rfl (by kernel_rfl) Try.func14 (by kernel_rfl) <|
 gc F.z29 rfl (by kernel_rfl) Try.func19 (by kernel_rfl) <|
 gc F.z79 rfl (by kernel_rfl) Try.func87 (by kernel_rfl) <|
 gc F.za5 rfl (by kernel_rfl) Try.func88 (by kernel_rfl) <|
 gc F.zeb rfl (by kernel_rfl) Try.func59 (by kernel_rfl) <|
 gc F.z28 rfl (by kernel_rfl) Try.func18 (by kernel_rfl) <|
 gc F.ze0 rfl (by kernel_rfl) Try.func93 (by kernel_rfl) <|
 gc F.zl8 rfl (by kernel_rfl) Try.func65 (by kernel_rfl) <|
 gc F.zg2 rfl (by kernel_rfl) Try.func68 (by kernel_rfl) <|
 gc F.z4b rfl (by kernel_rfl) Try.func63 (by kernel_rfl) <|
 gc F.z2e rfl (by kernel_rfl) Try.func64 (by kernel_rfl) <|
 gc F.z2s rfl (by kernel_rfl) Try.func66 (by kernel_rfl) <|
 gc F.z0o rfl (by kernel_rfl) Try.func67 (by kernel_rfl) <|
 gc F.z4s rfl (by kernel_rfl) Try.func69 (by kernel_rfl) <|
 gc F.z0n rfl (by kernel_rfl) Try.func70 (by kernel_rfl) <|
 gc F.zeh rfl (by kernel_rfl) Try.func129 (by kernel_rfl) <|
 gc F.z1r rfl (by kernel_rfl) Try.func126 (by kernel_rfl) <|
 gc F.zb9 rfl (by kernel_rfl) Try.func127 (by kernel_rfl) <|
 gc F.z0y rfl (by kernel_rfl) Try.func130 (by kernel_rfl) <|
 gc F.zba rfl (by kernel_rfl) Try.func131 (by kernel_rfl) <|
 gc F.zbf rfl (by kernel_rfl) Try.func104 (by kernel_rfl) <|
 gc F.z0g rfl (by kernel_rfl) Try.func60 (by kernel_rfl) <|
 gc F.z0f rfl (by kernel_rfl) Try.func61 (by kernel_rfl) <|
 gc F.z2t rfl (by kernel_rfl) Try.func62 (by kernel_rfl) <|
 gc F.z1s rfl (by kernel_rfl) Try.func85 (by kernel_rfl) <|
 gc F.z5k rfl (by kernel_rfl) Try.func20 (by kernel_rfl) <|
 gc F.z4f rfl (by kernel_rfl) Try.func21 (by kernel_rfl) <|
 gc F.z2f rfl (by kernel_rfl) Try.func22 (by kernel_rfl) <|
 gc F.z3w rfl (by kernel_rfl) Try.func106 (by kernel_rfl) <|
 gc F.z0v rfl (by kernel_rfl) Try.func107 (by kernel_rfl) <|
 gc F.z6u rfl (by kernel_rfl) Try.func108 (by kernel_rfl) <|
 gc F.z16 rfl (by kernel_rfl) Try.func109 (by kernel_rfl) <|
 gc F.zr rfl (by kernel_rfl) Try.func157 (by kernel_rfl) <|
 gc F.zkj rfl (by kernel_rfl) Try.func158 (by kernel_rfl) <|
 gc F.z72 rfl (by kernel_rfl) Try.func128 (by kernel_rfl) <|
 gc F.z08 rfl (by kernel_rfl) Try.func160 (by kernel_rfl) <|
 gc F.z7k rfl (by kernel_rfl) Try.func132 (by kernel_rfl) <|
 gc F.zb5 rfl (by kernel_rfl) Try.func133 (by kernel_rfl) <|
 gc F.z10 rfl (by kernel_rfl) Try.func125 (by kernel_rfl) <|
 gc F.zkh rfl (by kernel_rfl) Try.func151 (by kernel_rfl) <|
 gc F.z02 rfl (by kernel_rfl) Try.func171 (by kernel_rfl) <|
 gc F.z0b rfl (by kernel_rfl) Try.func172 (by kernel_rfl) <|
 gc F.zo rfl (by kernel_rfl) Try.func173 (by kernel_rfl) <|
 gc F.z00 rfl (by kernel_rfl) Try.func174 (by kernel_rfl) <|
 gc F.z0c rfl (by kernel_rfl) Try.func175 (by kernel_rfl) <|
 gc F.zl rfl (by kernel_rfl) Try.func176 (by kernel_rfl) <|
 gc F.zt rfl (by kernel_rfl) Try.func177 (by kernel_rfl) <|
 gc F.zq rfl (by kernel_rfl) Try.func178 (by kernel_rfl) <|
 gc F.zn3 rfl (by kernel_rfl) Try.func179 (by kernel_rfl) <|
 gc F.znm rfl (by kernel_rfl) Try.func180 (by kernel_rfl) <|
 gc F.z8r rfl (by kernel_rfl) Try.func159 (by kernel_rfl) <|
 gc F.zi rfl (by kernel_rfl) Try.func181 (by kernel_rfl) <|
 gc F.zmy rfl (by kernel_rfl) Try.func165 (by kernel_rfl) <|
 gc F.zmr rfl (by kernel_rfl) Try.func166 (by kernel_rfl) <|
 gc F.z0r rfl (by kernel_rfl) Try.func185 (by kernel_rfl) <|
 gc F.zbx rfl (by kernel_rfl) Try.func186 (by kernel_rfl) <|
 gc F.z47 rfl (by kernel_rfl) Try.func187 (by kernel_rfl) <|
 gc F.z0q rfl (by kernel_rfl) Try.func188 (by kernel_rfl) <|
 gc F.z25 rfl (by kernel_rfl) Try.func189 (by kernel_rfl) <|
 gc F.z0p rfl (by kernel_rfl) Try.func190 (by kernel_rfl) <|
 gc F.z1k rfl (by kernel_rfl) Try.func191 (by kernel_rfl) <|
 gc F.z0m rfl (by kernel_rfl) Try.func192 (by kernel_rfl) <|
 List.forall_mem_nil _
theorem methOk : MethOk Try.prog tab meth := fun T t mm m f _ h => by simp [tab, zrj] at h
theorem callOk : zbp Try.prog tab C := z0by (by kernel_rfl) progOk methOk
end Wm.Seat
