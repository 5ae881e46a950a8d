/- How the seat's functions are those of my table. -/
import Derived.Test.YthkimcdeejjmbaaChecked
import Derived.Test.YthkimcdeejjmbaaWmProgLinReplays
import Derived.Test.YthkimcdeejjmbaaWmMeth
set_option linter.all false
namespace Wm.Seat
open Wm Go Go.Proofs
def tab:Tab:={ fn:=[(8,44),(42,85),(45,179),(47,182),(41,204),(43,205),(44,206),(46,207),(89,184),(92,339),(48,208),(86,348),(14,96),(19,103),(87,178),(88,181),(59,263),(90,99),(91,102),(18,115),(93,349),(65,82),(68,83),(63,279),(64,280),(66,281),(67,282),(69,283),(70,284),(129,183),(126,332),(127,333),(130,335),(131,336),(104,376),(135,229),(134,274),(136,275),(137,276),(138,277),(139,278),(60,285),(61,286),(62,287),(85,331),(20,105),(21,106),(22,116),(106,383),(107,384),(108,385),(109,386),(157,405),(158,406),(128,334),(160,408),(132,337),(133,338),(161,231),(125,404),(151,445),(171,450),(172,451),(173,452),(174,453),(175,454),(176,455),(177,456),(178,457),(179,458),(180,459),(159,407),(181,460),(165,485),(166,486),(185,487),(186,488),(187,489),(188,490),(189,491),(190,492),(191,512),(192,513)],ty:=[(9,9),(107,159)],meth:=[] }
theorem gc {k i:Nat}{cl:Bool}{hs:zcd}{fn:Func}{l:List (Nat × Nat)} (af:AFunc) (e:af=cf cl hs fn) (hf:prog i=some af) (hc:Try.prog.funcs[k]?=some fn) (h:(zlk Try.prog k && (comp Try.prog tab cl hs fn).isSome)=true) (t:∀p∈l,FnOk Try.prog tab prog p):∀p∈(k,i) :: l,FnOk Try.prog tab prog p:=by
 subst e
 rw[Bool.and_eq_true] at h
 exact List.forall_mem_cons.mpr ⟨FnOk.of hf h.1 hc (z0lx h.2),t⟩
theorem progOk:ProgOk Try.prog tab prog:=ProgOk.of_fn (l:=tab.fn) rfl <|
 gc F.z4r rfl (by kernel_rfl) Try.func8 (by kernel_rfl) <|
 gc F.z8u rfl (by kernel_rfl) Try.func42 (by kernel_rfl) <|
 gc F.z2l rfl (by kernel_rfl) Try.func45 (by kernel_rfl) <|
 gc F.z22 rfl (by kernel_rfl) Try.func47 (by kernel_rfl) <|
 gc F.zlm rfl (by kernel_rfl) Try.func41 (by kernel_rfl) <|
 gc F.z96 rfl (by kernel_rfl) Try.func43 (by kernel_rfl) <|
 gc F.zj4 rfl (by kernel_rfl) Try.func44 (by kernel_rfl) <|
 gc F.z3e rfl (by kernel_rfl) Try.func46 (by kernel_rfl) <|
 gc F.z8p rfl (by kernel_rfl) Try.func89 (by kernel_rfl) <|
 gc F.z5c rfl (by kernel_rfl) Try.func92 (by kernel_rfl) <|
 gc F.z02u rfl (by kernel_rfl) Try.func48 (by kernel_rfl) <|
 gc F.zpa rfl (by kernel_rfl) Try.func86 (by kernel_rfl) <|
 gc F.zbc rfl (by kernel_rfl) Try.func14 (by kernel_rfl) <|
 gc F.z1c rfl (by kernel_rfl) Try.func19 (by kernel_rfl) <|
 gc F.z98 rfl (by kernel_rfl) Try.func87 (by kernel_rfl) <|
 gc F.zcj rfl (by kernel_rfl) Try.func88 (by kernel_rfl) <|
 gc F.zio rfl (by kernel_rfl) Try.func59 (by kernel_rfl) <|
 gc F.zbd rfl (by kernel_rfl) Try.func90 (by kernel_rfl) <|
 gc F.zj rfl (by kernel_rfl) Try.func91 (by kernel_rfl) <|
 gc F.zqa rfl (by kernel_rfl) Try.func18 (by kernel_rfl) <|
 gc F.z0aw rfl (by kernel_rfl) Try.func93 (by kernel_rfl) <|
 gc F.zr3 rfl (by kernel_rfl) Try.func65 (by kernel_rfl) <|
 gc F.zl8 rfl (by kernel_rfl) Try.func68 (by kernel_rfl) <|
 gc F.z36 rfl (by kernel_rfl) Try.func63 (by kernel_rfl) <|
 gc F.z2u rfl (by kernel_rfl) Try.func64 (by kernel_rfl) <|
 gc F.z3d rfl (by kernel_rfl) Try.func66 (by kernel_rfl) <|
 gc F.z0p rfl (by kernel_rfl) Try.func67 (by kernel_rfl) <|
 gc F.z64 rfl (by kernel_rfl) Try.func69 (by kernel_rfl) <|
 gc F.z0q rfl (by kernel_rfl) Try.func70 (by kernel_rfl) <|
 gc F.zit rfl (by kernel_rfl) Try.func129 (by kernel_rfl) <|
 gc F.z28 rfl (by kernel_rfl) Try.func126 (by kernel_rfl) <|
 gc F.zey rfl (by kernel_rfl) Try.func127 (by kernel_rfl) <|
 gc F.z13 rfl (by kernel_rfl) Try.func130 (by kernel_rfl) <|
 gc F.zeu rfl (by kernel_rfl) Try.func131 (by kernel_rfl) <|
 gc F.zfh rfl (by kernel_rfl) Try.func104 (by kernel_rfl) <|
 gc F.z1t rfl (by kernel_rfl) Try.func135 (by kernel_rfl) <|
 gc F.zy rfl (by kernel_rfl) Try.func134 (by kernel_rfl) <|
 gc F.z1i rfl (by kernel_rfl) Try.func136 (by kernel_rfl) <|
 gc F.z18 rfl (by kernel_rfl) Try.func137 (by kernel_rfl) <|
 gc F.z3i rfl (by kernel_rfl) Try.func138 (by kernel_rfl) <|
 gc F.z0c rfl (by kernel_rfl) Try.func139 (by kernel_rfl) <|
 gc F.z85 rfl (by kernel_rfl) Try.func60 (by kernel_rfl) <|
 gc F.z84 rfl (by kernel_rfl) Try.func61 (by kernel_rfl) <|
 gc F.zik rfl (by kernel_rfl) Try.func62 (by kernel_rfl) <|
 gc F.z27 rfl (by kernel_rfl) Try.func85 (by kernel_rfl) <|
 gc F.z6z rfl (by kernel_rfl) Try.func20 (by kernel_rfl) <|
 gc F.z5q rfl (by kernel_rfl) Try.func21 (by kernel_rfl) <|
 gc F.z2t rfl (by kernel_rfl) Try.func22 (by kernel_rfl) <|
 gc F.z4u rfl (by kernel_rfl) Try.func106 (by kernel_rfl) <|
 gc F.z14 rfl (by kernel_rfl) Try.func107 (by kernel_rfl) <|
 gc F.z8m rfl (by kernel_rfl) Try.func108 (by kernel_rfl) <|
 gc F.z1f rfl (by kernel_rfl) Try.func109 (by kernel_rfl) <|
 gc F.zt rfl (by kernel_rfl) Try.func157 (by kernel_rfl) <|
 gc F.zq4 rfl (by kernel_rfl) Try.func158 (by kernel_rfl) <|
 gc F.z8t rfl (by kernel_rfl) Try.func128 (by kernel_rfl) <|
 gc F.z0h rfl (by kernel_rfl) Try.func160 (by kernel_rfl) <|
 gc F.zaf rfl (by kernel_rfl) Try.func132 (by kernel_rfl) <|
 gc F.zep rfl (by kernel_rfl) Try.func133 (by kernel_rfl) <|
 gc F.z1u rfl (by kernel_rfl) Try.func161 (by kernel_rfl) <|
 gc F.z17 rfl (by kernel_rfl) Try.func125 (by kernel_rfl) <|
 gc F.zq3 rfl (by kernel_rfl) Try.func151 (by kernel_rfl) <|
 gc F.z09 rfl (by kernel_rfl) Try.func171 (by kernel_rfl) <|
 gc F.z0k rfl (by kernel_rfl) Try.func172 (by kernel_rfl) <|
 gc F.zp rfl (by kernel_rfl) Try.func173 (by kernel_rfl) <|
 gc F.z05 rfl (by kernel_rfl) Try.func174 (by kernel_rfl) <|
 gc F.z0l rfl (by kernel_rfl) Try.func175 (by kernel_rfl) <|
 gc F.zl rfl (by kernel_rfl) Try.func176 (by kernel_rfl) <|
 gc F.zw rfl (by kernel_rfl) Try.func177 (by kernel_rfl) <|
 gc F.zr rfl (by kernel_rfl) Try.func178 (by kernel_rfl) <|
 gc F.ztk rfl (by kernel_rfl) Try.func179 (by kernel_rfl) <|
 gc F.zso rfl (by kernel_rfl) Try.func180 (by kernel_rfl) <|
 gc F.zbe rfl (by kernel_rfl) Try.func159 (by kernel_rfl) <|
 gc F.zh rfl (by kernel_rfl) Try.func181 (by kernel_rfl) <|
 gc F.zta rfl (by kernel_rfl) Try.func165 (by kernel_rfl) <|
 gc F.ztp rfl (by kernel_rfl) Try.func166 (by kernel_rfl) <|
 gc F.z0u rfl (by kernel_rfl) Try.func185 (by kernel_rfl) <|
 gc F.zg3 rfl (by kernel_rfl) Try.func186 (by kernel_rfl) <|
 gc F.z5a rfl (by kernel_rfl) Try.func187 (by kernel_rfl) <|
 gc F.z0v rfl (by kernel_rfl) Try.func188 (by kernel_rfl) <|
 gc F.z2i rfl (by kernel_rfl) Try.func189 (by kernel_rfl) <|
 gc F.z0s rfl (by kernel_rfl) Try.func190 (by kernel_rfl) <|
 gc F.z1w rfl (by kernel_rfl) Try.func191 (by kernel_rfl) <|
 gc F.z0n rfl (by kernel_rfl) Try.func192 (by kernel_rfl) <|
 List.forall_mem_nil _
theorem methOk:zkb Try.prog tab meth:=fun T t mm m f _ h=>by simp[tab,z06l] at h
theorem callOk:zfp Try.prog tab C:=z0kw (by kernel_rfl) progOk methOk
end Wm.Seat
