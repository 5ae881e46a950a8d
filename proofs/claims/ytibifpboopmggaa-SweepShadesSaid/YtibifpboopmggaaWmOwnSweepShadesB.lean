/- What the functions come to, and the law: of my machine. -/
import Derived.Test.YtibifpboopmggaaWmOwnSweepShadesA
import Derived.Test.YtibifpboopmggaaWmTxtSweepShadesA
import Derived.Test.YtibifpboopmggaaWmProgSweepShades
import Derived.Test.YtibifpboopmggaaWmFast
import Derived.Test.YtibifpboopmggaaWmPOp0
set_option linter.all false
section
/- Heaps that are laid by the document: withyref13.Laid. -/
namespace Wm
attribute [local congr] bind_congr1
attribute [local irreducible] wr

def cfgB (k : Cfg) : Blk := .cells [.int .i64 k.s, .int .i64 k.a, .int .i64 k.c, .int .i64 k.hd, .int .i64 k.g, .int .i64 k.st] .rw
/-- What stands where while a heap is laid. -/
structure LdAt (k : Cfg) (h g : H) (cb bw : Nat) (f : Wd → Int) : Prop where
  fr : Fr [] h g
  cfg : g.get cb = some (cfgB k)
  row : g.get bw = some (.cells ((k.row f).map (.int .u64)) .rw)
  ncb : h.next ≤ cb
  nbw : h.next ≤ bw
  ne : cb ≠ bw
theorem LdAt.fr' {k : Cfg} {h g g' : H} {cb bw : Nat} {f : Wd → Int} (Z : LdAt k h g cb bw f) (F : Fr [] g g') : LdAt k h g' cb bw f :=
  ⟨Z.fr.trans' F, F.get Z.fr.ok Z.cfg (by simp), F.get Z.fr.ok Z.row (by simp), Z.ncb, Z.nbw, Z.ne⟩
theorem LdAt.set {k : Cfg} {h g : H} {cb bw : Nat} {f : Wd → Int} (Z : LdAt k h g cb bw f) {l : Wd} (hl : l.ok k) {v : Int} {cs : List V} (hcs : cs = ((k.row f).map (V.int .u64)).take (l.pos k) ++ [.int .u64 v] ++ ((k.row f).map (V.int .u64)).drop (l.pos k + 1)) : LdAt k h (g.put bw (some (.cells cs .rw))) cb bw (wset f l v) := by
  have ok := Z.fr.ok
  have hbl := ok.lt Z.row
  refine ⟨Z.fr.put (.inr Z.nbw) hbl _, by rw [get_put_ne Z.ne]; exact Z.cfg, ?_, Z.ncb, Z.nbw, Z.ne⟩
  rw [get_put_self, hcs, row_splice (by rw [row_length]; exact pos_lt hl), row_set hl]
theorem LdAt.row_eq {k : Cfg} {h g : H} {cb bw : Nat} {f f' : Wd → Int} (Z : LdAt k h g cb bw f) (e : k.row f = k.row f') : LdAt k h g cb bw f' :=
  ⟨Z.fr, Z.cfg, e ▸ Z.row, Z.ncb, Z.nbw, Z.ne⟩
/-- A store into the words. -/
theorem LdAt.le {k : Cfg} {f : Wd → Int} {l : Wd} (hl : l.ok k) : decide (l.pos k + 1 ≤ ((k.row f).map (V.int .u64)).length) = true := decide_eq_true (by rw [List.length_map, row_length]; exact pos_lt hl)

theorem ld_i {i : Nat} (h : i < 1000) : wr .i64 ((i : Int) + 1) = ((i + 1 : Nat) : Int) := by rw [wr64 (by omega) (by omega)]; rfl
theorem room_int {k : Cfg} (hr : k.R = true) : (if k.a < 3 then 3 else k.a) = (k.room : Int) := by
  have := Cfg.R_iff.mp hr
  unfold Cfg.room; split <;> omega
theorem ld_lt (i n : Nat) : decide ((i : Int) < (n : Int)) = decide (i < n) := by congr 1; apply propext; omega

/-- A body is laid. -/
theorem laid_body {k : Cfg} (hr : k.R = true) {h : H} (ok : h.ok) {x1 x2 x3 : V} {l : List Slt} (hx : RowS h.get x1 l) (hu : ∀ y ∈ l, y.okS) {s : Nat} (hs : s < k.S) {y : Slt} (hy : l[s]? = some y) {cb bw hb : Nat} {f : Wd → Int} {top : Int} {g0 : H} (Z0 : LdAt k h g0 cb bw f)
    (K : AX × List V × H → Option (AX × List V × H)) (R : AX × List V × H → Prop)
    (hK : ∀ (n : Nat) (g : H), (n = k.room ∨ n = y.body.length) → n ≤ k.room → Fr [bw] g0 g → LdAt k h g cb bw (bodyI f s y.body n) →
      Ev (K (.exit 2, S.withyref13_Laid_c4_O x1 x2 x3 (.ptr cb 0) (.sl bw 0 k.size (.ex k.size)) (.int .u64 top) (.int .i64 (s : Nat)) (.ptr hb 0), g)) R) :
    Ev ((W.loop (S.withyref13_Laid_c4_B W) (S.withyref13_Laid_c4_E x1 x2 x3 (.ptr cb 0) (.sl bw 0 k.size (.ex k.size)) (.int .u64 top) (.int .i64 (s : Nat)) (.ptr hb 0) (.int .i64 0)) g0).bind K) R := by
  have hbd := Cfg.bounds hr
  refine loop_ev (α := Nat) (fun i => S.withyref13_Laid_c4_E x1 x2 x3 (.ptr cb 0) (.sl bw 0 k.size (.ex k.size)) (.int .u64 top) (.int .i64 (s : Nat)) (.ptr hb 0) (.int .i64 (i : Nat)))
    (fun i g => i ≤ k.room ∧ i ≤ y.body.length ∧ Fr [bw] g0 g ∧ LdAt k h g cb bw (bodyI f s y.body i)) (fun i _ => k.room - i)
    (fun r => ∃ n, r.1 = .exit 2 ∧ r.2.1 = S.withyref13_Laid_c4_O x1 x2 x3 (.ptr cb 0) (.sl bw 0 k.size (.ex k.size)) (.int .u64 top) (.int .i64 (s : Nat)) (.ptr hb 0) ∧ (n = k.room ∨ n = y.body.length) ∧ n ≤ k.room ∧ Fr [bw] g0 r.2.2 ∧ LdAt k h r.2.2 cb bw (bodyI f s y.body n))
    0 rfl ⟨Nat.zero_le _, Nat.zero_le _, .refl Z0.fr.ok, by rw [bodyI_zero]; exact Z0⟩ ?_ ?_
  rotate_left
  · rintro ⟨_, _, g⟩ ⟨n, rfl, rfl, h1, h2, F, Z⟩
    exact hK n g h1 h2 F Z
  rintro i g ⟨hi, hib, F, Z⟩
  rw [S.withyref13_Laid_c4_eq]
  have hv : k.v = .agg [.int .i64 k.s, .int .i64 k.a, .int .i64 k.c, .int .i64 k.hd, .int .i64 k.g, .int .i64 k.st] := rfl
  have hcfg := Z.cfg
  unfold cfgB at hcfg
  have hroom := fun h => refRoom_spec k.s k.a k.c k.hd k.g k.st h
  unfold cfgV at hroom
  rw [room_int hr] at hroom
  have d1 := ld_lt i k.room
  by_cases hik : i < k.room
  rotate_left
  · rw [decide_eq_false hik] at d1
    simp only [S.withyref13_Laid_c4_S, Option.bind_some, ldN_get', ldNB_cells, Nat.zero_add, Nat.reduceAdd, Nat.reduceLeDiff, asI_int, List.length_cons, List.length_nil, decide_true, List.take_succ_cons, List.take_zero, List.drop_zero, W_call, hcfg, hroom, d1]
    exact Ev.some (.inr ⟨by simp, i, rfl, rfl, .inl (Nat.le_antisymm hi (Nat.le_of_not_lt hik)), hi, F, Z⟩)
  rw [decide_eq_true hik] at d1
  obtain ⟨xb, e1, _, e3, _⟩ := (hx.fr ok Z.fr).at Z.fr.ok hy
  have hB := (hx.body y (List.mem_of_getElem? hy)).fr ok Z.fr (by simp)
  have hBl := hB.len
  have d2 := ld_lt i y.body.length
  by_cases hil : i < y.body.length
  rotate_left
  · rw [decide_eq_false hil] at d2
    simp only [S.withyref13_Laid_c4_S, ptrAt_ptr, Option.bind_some, ld1_get', ldN_get', ldNB_cells, Nat.zero_add, Nat.reduceAdd, Nat.reduceLeDiff, asI_int, List.length_cons, List.length_nil, decide_true, List.take_succ_cons, List.take_zero, List.drop_zero, W_call, hcfg, hroom, d1, e1, e3, hBl, d2]
    exact Ev.some (.inr ⟨by simp, i, rfl, rfl, .inr (Nat.le_antisymm hib (Nat.le_of_not_lt hil)), hi, F, Z⟩)
  rw [decide_eq_true hil] at d2
  obtain ⟨v, hvi⟩ : ∃ v, y.body[i]? = some v := ⟨_, List.getElem?_eq_getElem hil⟩
  obtain ⟨vb, f1, f2⟩ := hB.at hvi
  have hbok : (Wd.body s i).ok k := ⟨hs, hik⟩
  have hat := at_wd hr hbok
  rw [hv] at hat
  have hat' : ∀ h, C 108 [.agg [.int .i64 k.s, .int .i64 k.a, .int .i64 k.c, .int .i64 k.hd, .int .i64 k.g, .int .i64 k.st], .agg [.str ⟨⟨[98, 111, 100, 121]⟩⟩, .int .i64 (s : Int), .int .i64 (i : Int)]] h = some (.int .i64 ((Wd.body s i).pos k : Nat), h) := hat
  have hix : indexAV 1 (.sl bw 0 k.size (.ex k.size)) (.int .i64 ((Wd.body s i).pos k : Nat)) = some (.ptr bw ((Wd.body s i).pos k)) := sl_idx1 (pos_lt hbok)
  have hrow := Z.row
  have hle := LdAt.le (f := bodyI f s y.body i) hbok
  have hne0 : decide (Bk.rw = Bk.ro) = false := rfl
  have wi := ld_i (i := i) (Nat.lt_of_lt_of_le hik (Nat.le_trans hbd.2.1.2 (by decide)))
  have hvb : V.beq y.v y.v = true := by
    rcases hB with ⟨h1, _⟩ | ⟨b, c, kk, h1, _⟩
    · rw [h1]; rfl
    · rw [h1]; simp [V.beq]
  have Z1 := Z.set (v := v) hbok rfl
  simp only [ld1_get'] at f2
  generalize hcs : ((k.row (bodyI f s y.body i)).map (V.int .u64)).take ((Wd.body s i).pos k) ++ [.int .u64 v] ++ ((k.row (bodyI f s y.body i)).map (V.int .u64)).drop ((Wd.body s i).pos k + 1) = cs at Z1
  simp only [S.withyref13_Laid_c4_S, ptrAt_ptr, Option.bind_some, Option.map_some, ld1_get', ldN_get', st_get', ldNB_cells, stB_cells, Nat.zero_add, Nat.reduceAdd, Nat.reduceLeDiff, V.one, V.cells, V.beq, ckB_some, asI_int, List.length_cons, List.length_nil, Nat.beq_refl, List.all_cons, List.all_nil, Bool.not_true, Bool.or_self, Bool.and_self, decide_true, decide_false, splice, List.take_succ_cons, List.take_zero, List.drop_zero, reduceCtorEq, W_call, hcfg, hroom, d1, e1, e3, hBl, d2, f1, f2, hat', hvb, hix, hrow, hle, hcs, wi]
  have Z2 := Z1.row_eq (f' := bodyI f s y.body (i + 1)) (by rw [← row_set hbok]; exact bodyI_succ f hs hik hvi)
  exact Ev.some (.inl ⟨i + 1, rfl, rfl, ⟨hik, hil, F.put (.inl (by simp)) (Z.fr.ok.lt Z.row) _, Z2⟩, Nat.sub_lt_sub_left hik (Nat.lt_succ_self i)⟩)

theorem ld_s {s S : Nat} (h : s < S) (h64 : S ≤ 64) : decide ((0 : Int) ≤ (s : Int)) = true ∧ wr .u64 (wr .i64 ((s : Int) + 1)) = (s : Int) + 1 ∧ wr .i64 ((s : Int) - 1) = (s : Int) - 1 := by
  refine ⟨decide_eq_true (by omega), ?_, wr64 (by omega) (by omega)⟩
  rw [wr64 (n := (s : Int) + 1) (by omega) (by omega), wru64 (by omega) (by omega)]
theorem hdL_none {l : List Slt} {s : Nat} (h : l[s]? = none) : hdL l s = Hdr.zero ∧ ∀ i, bodyL l s i = 0 := by
  unfold hdL bodyL; rw [h]; exact ⟨rfl, fun _ => rfl⟩
theorem hdL_wrong {l : List Slt} {s : Nat} {y : Slt} (h : l[s]? = some y) (hr : y.head.right = false) : hdL l s = Hdr.zero ∧ ∀ i, bodyL l s i = 0 := by
  unfold hdL bodyL; rw [h]; simp only [hr]; exact ⟨rfl, fun _ => rfl⟩
theorem hdL_right' {l : List Slt} {s : Nat} {y : Slt} (h : l[s]? = some y) (hr : y.head.right = true) : hdL l s = y.head ∧ ∀ i, bodyL l s i = (y.body[i]?).getD 0 := by
  unfold hdL bodyL; rw [h]; simp only [hr, if_true]; exact ⟨trivial, fun _ => trivial⟩

section
variable {k : Cfg} (hr : k.R = true) {h : H} (ok : h.ok) {x1 x2 x3 : V} {l : List Slt} (hx : RowS h.get x1 l) (hu : ∀ y ∈ l, y.okS)
include hr ok hx hu
/-- A slot is laid. -/
theorem laid_slot {s : Nat} (hs : s < k.S) {cb bw : Nat} {g : H} (Z : LdAt k h g cb bw (laidS k l (s + 1))) :
    Ev (S.withyref13_Laid_c1_S W x1 x2 x3 (.ptr cb 0) (.sl bw 0 k.size (.ex k.size)) (topL k l (s + 1)) (s : Nat) g) fun r => r.1 = .normal ∧ r.2.1 = S.withyref13_Laid_c1_E x1 x2 x3 (.ptr cb 0) (.sl bw 0 k.size (.ex k.size)) (.int .u64 (topL k l s)) (.int .i64 ((s : Int) - 1)) ∧ LdAt k h r.2.2 cb bw (laidS k l s) := by
  have hbd := Cfg.bounds hr
  obtain ⟨d0, ws1, ws2⟩ := ld_s hs hbd.1.2
  have hv : k.v = .agg [.int .i64 k.s, .int .i64 k.a, .int .i64 k.c, .int .i64 k.hd, .int .i64 k.g, .int .i64 k.st] := rfl
  have hhok : (Wd.header s).ok k := hs
  have hlok : (Wd.link s).ok k := hs
  have hat := at_wd hr hhok
  have hal := at_wd hr hlok
  rw [hv] at hat hal
  have hat' : ∀ h, C 108 [.agg [.int .i64 k.s, .int .i64 k.a, .int .i64 k.c, .int .i64 k.hd, .int .i64 k.g, .int .i64 k.st], .agg [.str ⟨⟨[104, 101, 97, 100, 101, 114]⟩⟩, .int .i64 (s : Int), .int .i64 0]] h = some (.int .i64 ((Wd.header s).pos k : Nat), h) := hat
  have hal' : ∀ h, C 108 [.agg [.int .i64 k.s, .int .i64 k.a, .int .i64 k.c, .int .i64 k.hd, .int .i64 k.g, .int .i64 k.st], .agg [.str ⟨⟨[108, 105, 110, 107]⟩⟩, .int .i64 (s : Int), .int .i64 0]] h = some (.int .i64 ((Wd.link s).pos k : Nat), h) := hal
  have hix : indexAV 1 (.sl bw 0 k.size (.ex k.size)) (.int .i64 ((Wd.header s).pos k : Nat)) = some (.ptr bw ((Wd.header s).pos k)) := sl_idx1 (pos_lt hhok)
  have hil : indexAV 1 (.sl bw 0 k.size (.ex k.size)) (.int .i64 ((Wd.link s).pos k : Nat)) = some (.ptr bw ((Wd.link s).pos k)) := sl_idx1 (pos_lt hlok)
  have hne0 : decide (Bk.rw = Bk.ro) = false := rfl
  have ok0 := Z.fr.ok
  have hcl := ok0.lt Z.cfg
  have hbl := ok0.lt Z.row
  have ncn : cb ≠ g.next := Nat.ne_of_lt hcl
  have nbn : bw ≠ g.next := Nat.ne_of_lt hbl
  have ncb := Z.ne
  have htop := topL_at l hs
  have hle1 : ∀ f, decide ((Wd.header s).pos k + 1 ≤ ((k.row f).map (V.int .u64)).length) = true := fun f => LdAt.le hhok
  have hle2 : ∀ f, decide ((Wd.link s).pos k + 1 ≤ ((k.row f).map (V.int .u64)).length) = true := fun f => LdAt.le hlok
  have hsp1 : ∀ f v, ((k.row f).map (V.int .u64)).take ((Wd.header s).pos k) ++ [.int .u64 v] ++ ((k.row f).map (V.int .u64)).drop ((Wd.header s).pos k + 1) = (k.row (wset f (.header s) v)).map (V.int .u64) := fun f v => by
    rw [row_splice (by rw [row_length]; exact pos_lt hhok), row_set hhok]
  have hsp2 : ∀ f v, ((k.row f).map (V.int .u64)).take ((Wd.link s).pos k) ++ [.int .u64 v] ++ ((k.row f).map (V.int .u64)).drop ((Wd.link s).pos k + 1) = (k.row (wset f (.link s) v)).map (V.int .u64) := fun f v => by
    rw [row_splice (by rw [row_length]; exact pos_lt hlok), row_set hlok]
  have hxl := hx.len
  have d1 := ld_lt s l.length
  -- a slot that is nothing
  have nothing : hdL l s = Hdr.zero → (∀ i, bodyL l s i = 0) → k.row (wset (wset (laidS k l (s + 1)) (.header s) Hdr.zero.word) (.link s) (topL k l (s + 1))) = k.row (laidS k l s) ∧ topL k l s = (s : Int) + 1 := fun hz hb => by
    have e := laidS_step (k := k) (l := l) (n := 0) hs (b := []) (fun i _ => by rw [hb i, if_neg (Nat.not_lt_zero i)])
    rw [hz, if_pos (show Hdr.zero.kind = 0 from rfl), bodyI_zero] at e
    refine ⟨e.symm, ?_⟩
    rw [htop, hz, if_pos (show Hdr.zero.kind = 0 from rfl)]
  have Zn : ∀ (b1 b2 : _) (f' : Wd → Int), k.row f' = k.row (laidS k l s) → LdAt k h ((((g.new b1).put g.next b2)).put bw (some (.cells ((k.row f').map (.int .u64)) .rw))) cb bw (laidS k l s) := fun b1 b2 f' e => by
    refine ⟨(((Z.fr.new _).put (.inr Z.fr.le) (Nat.lt_succ_self _) _).put (.inr Z.nbw) (Nat.lt_succ_of_lt hbl) _), ?_, by rw [get_put_self, e], Z.ncb, Z.nbw, Z.ne⟩
    rw [get_put_ne ncb, get_put_ne ncn, get_new_ne ncn]; exact Z.cfg
  have hcfg := Z.cfg
  have hrow := Z.row
  unfold cfgB at hcfg
  have hPz := fun h => refPack_spec (x := Hdr.zero) zero_right h
  simp only [Hdr.cs, Hdr.zero] at hPz
  by_cases hsl : s < l.length
  rotate_left
  · rw [decide_eq_false hsl] at d1
    obtain ⟨hz, hb⟩ := hdL_none (List.getElem?_eq_none (Nat.le_of_not_lt hsl) : l[s]? = none)
    obtain ⟨e, ht⟩ := nothing hz hb
    simp only [Hdr.zero] at e
    simp only [S.withyref13_Laid_c1_S, Option.bind_some, Option.map_some, ld1_get', ldN_get', st_get', get_put', get_new', put_put', ldB_cells, ldNB_cells, stB_cells, List.getElem?_cons_zero, Nat.zero_add, Nat.reduceAdd, Nat.reduceLeDiff, V.one, V.cells, V.beq, V.beqs, ckB_some, asI_int, List.length_cons, List.length_nil, Nat.beq_refl, List.all_cons, List.all_nil, Bool.not_true, Bool.or_self, Bool.and_self, decide_true, decide_false, if_true, if_false, splice, List.take_succ_cons, List.take_zero, List.drop_succ_cons, List.drop_zero, List.cons_append, List.nil_append, reduceCtorEq, W_call, d0, hxl, d1, hcfg, ncn, ncb, nbn, nbn.symm, hat', hPz, hix, hrow, hle1, hsp1, hal', hil, hle2, hsp2, ws1, ws2, BEq.rfl]
    exact Ev.some ⟨rfl, by rw [ht], Zn _ _ _ e⟩
  rw [decide_eq_true hsl] at d1
  obtain ⟨y, hy⟩ : ∃ y, l[s]? = some y := ⟨_, List.getElem?_eq_getElem hsl⟩
  obtain ⟨xb, e1, e2, _, hxbl⟩ := (hx.fr ok Z.fr).at ok0 hy
  have nxn : xb ≠ g.next := Nat.ne_of_lt hxbl
  have hRt := fun h => refRight_spec y.head h
  cases hyr : y.head.right with
  | false =>
    rw [hyr] at hRt
    obtain ⟨hz, hb⟩ := hdL_wrong hy hyr
    obtain ⟨e, ht⟩ := nothing hz hb
    simp only [Hdr.zero] at e
    simp only [S.withyref13_Laid_c1_S, ptrAt_ptr, Option.bind_some, Option.map_some, ld1_get', ldN_get', st_get', get_put', get_new', put_put', ldB_cells, ldNB_cells, stB_cells, List.getElem?_cons_zero, Nat.zero_add, Nat.add_zero, Nat.reduceAdd, Nat.reduceLeDiff, V.one, V.cells, V.beq, V.beqs, ckB_some, asI_int, asB_bool, List.length_cons, List.length_nil, Nat.beq_refl, List.all_cons, List.all_nil, Bool.not_true, Bool.false_or, Bool.or_self, Bool.and_self, decide_true, decide_false, if_true, if_false, splice, List.take_succ_cons, List.take_zero, List.drop_succ_cons, List.drop_zero, List.cons_append, List.nil_append, reduceCtorEq, W_call, d0, hxl, d1, e1, e2, nxn, hRt, hcfg, ncn, ncb, nbn, nbn.symm, hat', hPz, hix, hrow, hle1, hsp1, hal', hil, hle2, hsp2, ws1, ws2, BEq.rfl]
    exact Ev.some ⟨rfl, by rw [ht], Zn _ _ _ e⟩
  | true =>
    rw [hyr] at hRt
    obtain ⟨hz, hb⟩ := hdL_right' hy hyr
    have hPk := fun h => refPack_spec hyr h
    have hkk : y.head.cs = [.int .i64 y.head.kind, .int .i64 y.head.mark, .bool y.head.gray, .int .i64 y.head.arity, .int .i64 y.head.gen, .int .i64 y.head.stamp] := rfl
    rw [hkk] at e2 hRt hPk
    simp only [S.withyref13_Laid_c1_S, ptrAt_ptr, Option.bind_some, Option.map_some, ld1_get', ldN_get', st_get', get_put', get_new', put_put', ldNB_cells, stB_cells, Nat.zero_add, Nat.add_zero, Nat.reduceAdd, Nat.reduceLeDiff, V.one, V.cells, asB_bool, List.length_cons, List.length_nil, Nat.beq_refl, List.all_cons, List.all_nil, Bool.not_true, Bool.or_self, Bool.and_self, decide_true, decide_false, if_true, if_false, splice, List.take_succ_cons, List.take_zero, List.drop_succ_cons, List.drop_zero, List.cons_append, List.nil_append, reduceCtorEq, W_call, d0, hxl, d1, e1, e2, nxn, hRt]
    have F1 : Fr [] g ((g.new (.cells [.int .i64 0, .int .i64 0, .bool false, .int .i64 0, .int .i64 0, .int .i64 0] .rw)).put g.next (some (.cells [.int .i64 y.head.kind, .int .i64 y.head.mark, .bool y.head.gray, .int .i64 y.head.arity, .int .i64 y.head.gen, .int .i64 y.head.stamp] .rw))) := ((Fr.refl ok0).new _).put (.inr (Nat.le_refl _)) (Nat.lt_succ_self _) _
    refine laid_body hr ok hx hu hs hy (Z.fr' F1) _ _ ?_
    intro n g2 hn hnr F2 Z2
    show Ev (S.withyref13_Laid_K7 W (.exit 2) _ g2) _
    rw [S.withyref13_Laid_c4_e2_eq]
    have hown := F2.get F1.ok (get_put_self _ _ _) (by simp [nbn.symm])
    have hcfg2 := Z2.cfg
    have hrow2 := Z2.row
    have ok2 := F2.ok
    have hcl2 := ok2.lt hcfg2
    have hbl2 := ok2.lt hrow2
    unfold cfgB at hcfg2
    have e := laidS_step (k := k) (l := l) (n := n) hs (b := y.body) (fun i hi => by
      rw [hb i]
      by_cases h1 : i < n
      · rw [if_pos h1]
      · rw [if_neg h1]
        rcases hn with h2 | h2
        · exact absurd (h2 ▸ hi) h1
        · rw [List.getElem?_eq_none (by rw [← h2]; exact Nat.le_of_not_lt h1)]; rfl)
    rw [hz] at e htop
    by_cases hk0 : y.head.kind = 0
    · rw [if_pos hk0] at e htop
      have dk : decide (y.head.kind = 0) = true := decide_eq_true hk0
      simp only [S.withyref13_Laid_c4_e2, ptrAt_ptr, Option.bind_some, Option.map_some, ld1_get', ldN_get', st_get', get_put', put_put', ldB_cells, ldNB_cells, stB_cells, List.getElem?_cons_zero, Nat.zero_add, Nat.add_zero, Nat.reduceAdd, Nat.reduceLeDiff, V.one, V.cells, V.beq, V.beqs, ckB_some, asI_int, List.length_cons, List.length_nil, Nat.beq_refl, List.all_cons, List.all_nil, Bool.not_true, Bool.or_self, Bool.and_self, decide_true, decide_false, if_true, if_false, splice, List.take_succ_cons, List.take_zero, List.drop_zero, reduceCtorEq, W_call, hcfg2, hown, nbn.symm, hat', hPk, hix, hrow2, hle1, hsp1, ncb, dk, hal', hil, hle2, hsp2, ws1, ws2, BEq.rfl]
      refine Ev.some ⟨rfl, by rw [htop], ⟨Z2.fr.put (.inr Z.nbw) hbl2 _, by rw [get_put_ne ncb]; exact Z2.cfg, by rw [get_put_self, e], Z.ncb, Z.nbw, Z.ne⟩⟩
    · rw [if_neg hk0] at e htop
      have dk : decide (y.head.kind = 0) = false := decide_eq_false hk0
      simp only [S.withyref13_Laid_c4_e2, ptrAt_ptr, Option.bind_some, Option.map_some, ld1_get', ldN_get', st_get', get_put', ldB_cells, ldNB_cells, stB_cells, List.getElem?_cons_zero, Nat.zero_add, Nat.add_zero, Nat.reduceAdd, Nat.reduceLeDiff, V.one, V.cells, V.beq, V.beqs, ckB_some, asI_int, List.length_cons, List.length_nil, Nat.beq_refl, List.all_cons, List.all_nil, Bool.not_true, Bool.or_self, Bool.and_self, decide_true, decide_false, if_false, splice, List.take_succ_cons, List.take_zero, List.drop_zero, reduceCtorEq, W_call, hcfg2, hown, nbn.symm, hat', hPk, hix, hrow2, hle1, hsp1, dk, ws2, BEq.rfl]
      refine Ev.some ⟨rfl, by rw [htop], ⟨Z2.fr.put (.inr Z.nbw) hbl2 _, by rw [get_put_ne ncb]; exact Z2.cfg, by rw [get_put_self, e], Z.ncb, Z.nbw, Z.ne⟩⟩
end

/-! ### Roots, views, grays -/
def rootW (k : Cfg) (j : Nat) : Wd := if j / k.C < k.H then .entry (j % k.C) (j / k.C) else .start (j % k.C)
def rootsF (k : Cfg) (f : Wd → Int) (roots : List Int) : Nat → Wd → Int
  | 0 => f
  | n + 1 => wset (rootsF k f roots n) (rootW k n) ((roots[n]?).getD 0 % 20)
def viewsF (f : Wd → Int) (views : List Int) : Nat → Wd → Int
  | 0 => f
  | n + 1 => wset (viewsF f views n) (.view n) ((views[n]?).getD 0)
def laidT (k : Cfg) (l : List Slt) : Wd → Int := wset (laidS k l 0) .top (topL k l 0)
def laidV (k : Cfg) (l : List Slt) (roots views : List Int) : Wd → Int := viewsF (rootsF k (laidT k l) roots (min roots.length (k.C * (k.H + 1)))) views (min views.length k.C)
/-- The words of a heap that is laid. -/
def laidW (k : Cfg) (l : List Slt) (roots views : List Int) : Wd → Int := wset (laidV k l roots views) .grays (graysN k (laidV k l roots views) : Nat)

theorem laidS_U64 {k : Cfg} (hr : k.R = true) {l : List Slt} (hu : ∀ y ∈ l, y.okS) (j : Nat) (w : Wd) : U64 (laidS k l j w) := by
  have z : U64 0 := ⟨by decide, by decide⟩
  have hS := (Cfg.bounds hr).1
  cases w with
  | header q =>
    simp only [laidS]; split
    · exact word_U64 (hdL_right l q)
    · exact z
  | body q i =>
    simp only [laidS]; split
    · exact bodyL_U64 hu q i
    · exact z
  | link q =>
    simp only [laidS]; split
    · unfold topL
      have := topG_bd l (k.S - (q + 1)) (q + 1)
      by_cases h : q + 1 ≤ k.S
      · exact ⟨this.1, by omega⟩
      · rw [show k.S - (q + 1) = 0 by omega]; exact z
    · exact mem0_U64 hr (.link q)
  | clock => exact mem0_U64 hr .clock
  | epoch => exact mem0_U64 hr .epoch
  | grays => exact mem0_U64 hr .grays
  | top => exact mem0_U64 hr .top
  | pin q => exact mem0_U64 hr (.pin q)
  | entry q i => exact mem0_U64 hr (.entry q i)
  | view q => exact mem0_U64 hr (.view q)
  | start q => exact mem0_U64 hr (.start q)
theorem wset_U64 {f : Wd → Int} {w0 : Wd} {v : Int} (h : ∀ w, U64 (f w)) (hv : U64 v) (w : Wd) : U64 (wset f w0 v w) := by
  unfold wset; split
  · exact hv
  · exact h w
theorem rootsF_U64 {k : Cfg} {f : Wd → Int} {roots : List Int} (h : ∀ w, U64 (f w)) : ∀ n w, U64 (rootsF k f roots n w)
  | 0, w => h w
  | n + 1, w => wset_U64 (rootsF_U64 h n) ⟨by omega, by omega⟩ w
theorem viewsF_U64 {f : Wd → Int} {views : List Int} (h : ∀ w, U64 (f w)) (hv : ∀ v ∈ views, U64 v) : ∀ n w, U64 (viewsF f views n w)
  | 0, w => h w
  | n + 1, w => wset_U64 (viewsF_U64 h hv n) (by
      cases hn : views[n]? with
      | none => exact ⟨by decide, by decide⟩
      | some v => exact hv v (List.mem_of_getElem? hn)) w
theorem laidV_U64 {k : Cfg} (hr : k.R = true) {l : List Slt} (hu : ∀ y ∈ l, y.okS) {roots views : List Int} (hv : ∀ v ∈ views, U64 v) (w : Wd) : U64 (laidV k l roots views w) := by
  unfold laidV
  refine viewsF_U64 (rootsF_U64 (fun w => ?_) _) hv _ w
  have hb := topL_bd k l (Nat.zero_le k.S)
  have hS := (Cfg.bounds hr).1
  exact wset_U64 (laidS_U64 hr hu 0) ⟨hb.1, by omega⟩ w
theorem laidW_U64 {k : Cfg} (hr : k.R = true) {l : List Slt} (hu : ∀ y ∈ l, y.okS) {roots views : List Int} (hv : ∀ v ∈ views, U64 v) (w : Wd) : U64 (laidW k l roots views w) := by
  unfold laidW
  have hS := (Cfg.bounds hr).1
  have := graysN_le k (laidV k l roots views)
  exact wset_U64 (laidV_U64 hr hu hv) ⟨by omega, by omega⟩ w

theorem LdAt.rows {k : Cfg} {h g : H} {cb bw : Nat} {f : Wd → Int} (Z : LdAt k h g cb bw f) {l : Wd} (hl : l.ok k) (v : Int) :
    g.st 1 (.ptr bw (l.pos k)) (.int .u64 v) = some (g.put bw (some (.cells ((k.row (wset f l v)).map (.int .u64)) .rw))) ∧ LdAt k h (g.put bw (some (.cells ((k.row (wset f l v)).map (.int .u64)) .rw))) cb bw (wset f l v) := by
  have hsp : ((k.row f).map (V.int .u64)).take (l.pos k) ++ [.int .u64 v] ++ ((k.row f).map (V.int .u64)).drop (l.pos k + 1) = (k.row (wset f l v)).map (V.int .u64) := by
    rw [row_splice (by rw [row_length]; exact pos_lt hl), row_set hl]
  have h1 := row_st2 (g := g) (b := bw) (ws := k.row f) (kk := .rw) (by decide) Z.row (i := l.pos k) (by rw [row_length]; exact pos_lt hl) v
  refine ⟨?_, Z.set hl hsp.symm⟩
  rw [h1, row_set hl]

theorem ld_j {j C : Nat} (hC : 1 ≤ C) (h8 : C ≤ 8) (hj : j < 1000) : arith .rem .i64 (j : Int) (C : Int) = some ((j % C : Nat) : Int) ∧ arith .quo .i64 (j : Int) (C : Int) = some ((j / C : Nat) : Int) := by
  have h0 : decide ((C : Int) = 0) = false := decide_eq_false (by omega)
  have e1 : Int.tmod (j : Int) (C : Int) = ((j % C : Nat) : Int) := by rw [Int.tmod_eq_emod_of_nonneg (by omega)]; rfl
  have e2 : Int.tdiv (j : Int) (C : Int) = ((j / C : Nat) : Int) := by rw [Int.tdiv_eq_ediv_of_nonneg (by omega)]; rfl
  have l1 := Nat.mod_lt j hC
  have l2 := Nat.div_le_self j C
  refine ⟨by simp only [arith, h0, e1], ?_⟩
  simp only [arith, h0, e2]
  generalize j / C = d at l2 ⊢
  rw [wr64 (by omega) (by omega)]
theorem ld_mul {C H : Nat} (hC : C ≤ 8) (hH : H ≤ 16) : wr .i64 ((C : Int) * (wr .i64 ((H : Int) + 1))) = ((C * (H + 1) : Nat) : Int) := by
  have h1 : C * (H + 1) ≤ 8 * 17 := Nat.mul_le_mul hC (by omega)
  rw [wr64 (n := (H : Int) + 1) (by omega) (by omega)]
  have h2 : (C : Int) * ((H : Int) + 1) = ((C * (H + 1) : Nat) : Int) := by rw [Int.natCast_mul]; rfl
  rw [h2, wr64 (by omega) (by omega)]

theorem LdAt.stB {k : Cfg} {h g : H} {cb bw : Nat} {f : Wd → Int} (Z : LdAt k h g cb bw f) {l : Wd} (hl : l.ok k) (v : Int) :
    stB (g.get bw) (l.pos k) [.int .u64 v] = some (.cells ((k.row (wset f l v)).map (.int .u64)) .rw) := by
  have hne0 : decide (Bk.rw = Bk.ro) = false := rfl
  have hsp : ((k.row f).map (V.int .u64)).take (l.pos k) ++ [.int .u64 v] ++ ((k.row f).map (V.int .u64)).drop (l.pos k + 1) = (k.row (wset f l v)).map (V.int .u64) := by
    rw [row_splice (by rw [row_length]; exact pos_lt hl), row_set hl]
  have hle := LdAt.le (f := f) hl
  have hone : [V.int .u64 v].all V.one = true := rfl
  have hlen : [V.int .u64 v].length = 1 := rfl
  rw [Z.row, stB_cells, hlen, hle, hone, hne0]
  show some (Blk.cells (splice _ _ _) _) = _
  unfold splice
  rw [hlen, hsp]
theorem LdAt.ix {k : Cfg} {bw : Nat} {l : Wd} (hl : l.ok k) : indexAV 1 (.sl bw 0 k.size (.ex k.size)) (.int .i64 (l.pos k : Nat)) = some (.ptr bw (l.pos k)) := sl_idx1 (pos_lt hl)
theorem LdAt.put {k : Cfg} {h g : H} {cb bw : Nat} {f : Wd → Int} (Z : LdAt k h g cb bw f) {l : Wd} (hl : l.ok k) (v : Int) :
    LdAt k h (g.put bw (some (.cells ((k.row (wset f l v)).map (.int .u64)) .rw))) cb bw (wset f l v) := (Z.rows hl v).2

/-- One root. -/
theorem laid_root {k : Cfg} (hr : k.R = true) (hH : k.hd = (k.H : Int)) {h : H} {x2 x3 : V} {cb bw : Nat} {f : Wd → Int} {g : H} (Z : LdAt k h g cb bw f) {i n v : Int} {p q L : Nat} (hl : lenSl x2 = some L)
    (d1 : decide (i < (L : Int)) = true) (hm : wr .i64 (k.c * (wr .i64 (k.hd + 1))) = n) (d2 : decide (i < n) = true) (ar : arith .rem .i64 i k.c = some (p : Int)) (aq : arith .quo .i64 i k.c = some (q : Int))
    (hpC : p < k.C) {vb vo : Nat} (f1 : indexAV 1 x2 (.int .i64 i) = some (.ptr vb vo)) (f2 : ldB (g.get vb) vo = some (.int .u64 v)) (hv0 : 0 ≤ v) {i' : Int} (wi : wr .i64 (i + 1) = i') :
    Ev (S.withyref13_Laid_c6_S W x2 x3 (.ptr cb 0) (.sl bw 0 k.size (.ex k.size)) i g) fun r => r.1 = .normal ∧ r.2.1 = S.withyref13_Laid_c6_E x2 x3 (.ptr cb 0) (.sl bw 0 k.size (.ex k.size)) (.int .i64 i') ∧ LdAt k h r.2.2 cb bw (wset f (if q < k.H then .entry p q else .start p) (v % 20)) := by
  have hcfg := Z.cfg
  unfold cfgB at hcfg
  have hv : k.v = .agg [.int .i64 k.s, .int .i64 k.a, .int .i64 k.c, .int .i64 k.hd, .int .i64 k.g, .int .i64 k.st] := rfl
  have htm : Int.tmod v 20 = v % 20 := tm hv0
  by_cases hq : q < k.H
  · have d3 : decide ((q : Int) < k.hd) = true := by rw [hH]; exact decide_eq_true (Int.ofNat_lt.mpr hq)
    have hwok : (Wd.entry p q).ok k := ⟨hpC, hq⟩
    have hat := at_wd hr hwok
    rw [hv] at hat
    have hat' : ∀ h, C 108 [.agg [.int .i64 k.s, .int .i64 k.a, .int .i64 k.c, .int .i64 k.hd, .int .i64 k.g, .int .i64 k.st], .agg [.str ⟨⟨[101, 110, 116, 114, 121]⟩⟩, .int .i64 (p : Int), .int .i64 (q : Int)]] h = some (.int .i64 ((Wd.entry p q).pos k : Nat), h) := hat
    have hix := LdAt.ix (bw := bw) hwok
    have hst := Z.stB hwok (v % 20)
    rw [if_pos hq]
    have Z1 := Z.put hwok (v % 20)
    simp only [S.withyref13_Laid_c6_S, ptrAt_ptr, Option.bind_some, Option.map_some, ld1_get', ldN_get', st_get', ldB_cells, ldNB_cells, List.getElem?_cons_zero, List.getElem?_cons_succ, Nat.zero_add, Nat.reduceAdd, Nat.reduceLeDiff, V.one, V.cells, V.beq, ckB_some, asI_int, List.length_cons, List.length_nil, Nat.beq_refl, Bool.and_self, decide_true, List.take_succ_cons, List.take_zero, List.drop_zero, W_call, hl, d1, hcfg, hm, d2, ar, aq, d3, f1, f2, hat', hix, hst, htm, wi]
    exact Ev.some ⟨rfl, rfl, Z1⟩
  · have d3 : decide ((q : Int) < k.hd) = false := by rw [hH]; exact decide_eq_false (fun h => hq (Int.ofNat_lt.mp h))
    have hwok : (Wd.start p).ok k := hpC
    have hat := at_wd hr hwok
    rw [hv] at hat
    have hat' : ∀ h, C 108 [.agg [.int .i64 k.s, .int .i64 k.a, .int .i64 k.c, .int .i64 k.hd, .int .i64 k.g, .int .i64 k.st], .agg [.str ⟨⟨[115, 116, 97, 114, 116]⟩⟩, .int .i64 (p : Int), .int .i64 0]] h = some (.int .i64 ((Wd.start p).pos k : Nat), h) := hat
    have hix := LdAt.ix (bw := bw) hwok
    have hst := Z.stB hwok (v % 20)
    rw [if_neg hq]
    have Z1 := Z.put hwok (v % 20)
    simp only [S.withyref13_Laid_c6_S, ptrAt_ptr, Option.bind_some, Option.map_some, ld1_get', ldN_get', st_get', ldB_cells, ldNB_cells, List.getElem?_cons_zero, List.getElem?_cons_succ, Nat.zero_add, Nat.reduceAdd, Nat.reduceLeDiff, V.one, V.cells, V.beq, ckB_some, asI_int, List.length_cons, List.length_nil, Nat.beq_refl, Bool.and_self, decide_true, List.take_succ_cons, List.take_zero, List.drop_zero, W_call, hl, d1, hcfg, hm, d2, ar, aq, d3, f1, f2, hat', hix, hst, htm, wi]
    exact Ev.some ⟨rfl, rfl, Z1⟩

theorem laid_root_end {k : Cfg} {h : H} {x2 x3 : V} {cb bw : Nat} {f : Wd → Int} {g : H} (Z : LdAt k h g cb bw f) {i n : Int} {L : Nat} (hl : lenSl x2 = some L) (hm : wr .i64 (k.c * (wr .i64 (k.hd + 1))) = n)
    (d : decide (i < (L : Int)) = false ∨ (decide (i < (L : Int)) = true ∧ decide (i < n) = false)) :
    S.withyref13_Laid_c6_S W x2 x3 (.ptr cb 0) (.sl bw 0 k.size (.ex k.size)) i g = some (.exit 4, S.withyref13_Laid_c6_O x3 (.ptr cb 0) (.sl bw 0 k.size (.ex k.size)), g) := by
  have hcfg := Z.cfg
  unfold cfgB at hcfg
  rcases d with d1 | ⟨d1, d2⟩
  · simp only [S.withyref13_Laid_c6_S, Option.bind_some, hl, d1]
  · simp only [S.withyref13_Laid_c6_S, ptrAt_ptr, Option.bind_some, ld1_get', ldN_get', ldB_cells, ldNB_cells, List.getElem?_cons_zero, List.getElem?_cons_succ, Nat.zero_add, Nat.reduceAdd, Nat.reduceLeDiff, V.one, asI_int, List.length_cons, List.length_nil, decide_true, List.take_succ_cons, List.take_zero, List.drop_zero, W_call, hl, d1, hcfg, hm, d2]

section
variable {k : Cfg} (hr : k.R = true) {h : H} (ok : h.ok) {x2 x3 : V} {roots views : List Int}
include hr ok
/-- The roots are laid. -/
theorem laid_roots (hx2 : RowN .u64 h.get x2 roots) (hu : ∀ w ∈ roots, U64 w) {cb bw : Nat} {f : Wd → Int} {g0 : H} (Z0 : LdAt k h g0 cb bw f)
    (K : AX × List V × H → Option (V × H)) (R : V × H → Prop)
    (hK : ∀ g : H, LdAt k h g cb bw (rootsF k f roots (min roots.length (k.C * (k.H + 1)))) → Ev (K (.exit 4, S.withyref13_Laid_c6_O x3 (.ptr cb 0) (.sl bw 0 k.size (.ex k.size)), g)) R) :
    Ev ((W.loop (S.withyref13_Laid_c6_B W) (S.withyref13_Laid_c6_E x2 x3 (.ptr cb 0) (.sl bw 0 k.size (.ex k.size)) (.int .i64 0)) g0).bind K) R := by
  have hbd := Cfg.bounds hr
  have hR := Cfg.R_iff.mp hr
  have hc : k.c = (k.C : Int) := by unfold Cfg.C; omega
  have hh : k.hd = (k.H : Int) := by unfold Cfg.H; omega
  have hmul : wr .i64 (k.c * (wr .i64 (k.hd + 1))) = ((k.C * (k.H + 1) : Nat) : Int) := by rw [hc, hh]; exact ld_mul hbd.2.2.1.2 hbd.2.2.2.1.2
  have hmx : k.C * (k.H + 1) ≤ 8 * 17 := Nat.mul_le_mul hbd.2.2.1.2 (Nat.succ_le_succ hbd.2.2.2.1.2)
  generalize hN : k.C * (k.H + 1) = N at hmul hmx hK
  refine loop_ev (α := Nat) (fun i => S.withyref13_Laid_c6_E x2 x3 (.ptr cb 0) (.sl bw 0 k.size (.ex k.size)) (.int .i64 (i : Nat)))
    (fun i g => i ≤ roots.length ∧ i ≤ N ∧ LdAt k h g cb bw (rootsF k f roots i)) (fun i _ => roots.length - i)
    (fun r => r.1 = .exit 4 ∧ r.2.1 = S.withyref13_Laid_c6_O x3 (.ptr cb 0) (.sl bw 0 k.size (.ex k.size)) ∧ LdAt k h r.2.2 cb bw (rootsF k f roots (min roots.length N)))
    0 rfl ⟨Nat.zero_le _, Nat.zero_le _, Z0⟩ ?_ ?_
  rotate_left
  · rintro ⟨_, _, g⟩ ⟨rfl, rfl, Z⟩
    exact hK g Z
  rintro i g ⟨hi, him, Z⟩
  rw [S.withyref13_Laid_c6_eq]
  have hl := (hx2.fr ok Z.fr (by simp) : RowN .u64 g.get x2 roots).len
  have d1 := ld_lt i roots.length
  by_cases hil : i < roots.length
  rotate_left
  · rw [decide_eq_false hil] at d1
    rw [laid_root_end Z hl hmul (.inl d1)]
    have e : min roots.length N = i := by clear d1 hmul; omega
    exact Ev.some (.inr ⟨by simp, rfl, rfl, by rw [e]; exact Z⟩)
  rw [decide_eq_true hil] at d1
  have d2 := ld_lt i N
  by_cases himl : i < N
  rotate_left
  · rw [decide_eq_false himl] at d2
    rw [laid_root_end Z hl hmul (.inr ⟨d1, d2⟩)]
    have e : min roots.length N = i := by clear d1 d2 hmul; omega
    exact Ev.some (.inr ⟨by simp, rfl, rfl, by rw [e]; exact Z⟩)
  rw [decide_eq_true himl] at d2
  have hi1000 : i < 1000 := Nat.lt_of_lt_of_le himl (Nat.le_trans hmx (by decide))
  obtain ⟨ar, aq⟩ := ld_j hbd.2.2.1.1 hbd.2.2.1.2 hi1000
  rw [← hc] at ar aq
  obtain ⟨v, hvi⟩ : ∃ v, roots[i]? = some v := ⟨_, List.getElem?_eq_getElem hil⟩
  have hvu := hu v (List.mem_of_getElem? hvi)
  obtain ⟨vb, f1, f2⟩ := (hx2.fr ok Z.fr (by simp)).at hvi
  have wi := ld_i hi1000
  simp only [ld1_get'] at f2
  refine (laid_root hr hh Z hl d1 hmul d2 ar aq (Nat.mod_lt i hbd.2.2.1.1) f1 f2 hvu.1 wi).mono ?_
  rintro ⟨_, _, g'⟩ ⟨rfl, rfl, Z1⟩
  refine .inl ⟨i + 1, rfl, rfl, ⟨hil, himl, ?_⟩, Nat.sub_lt_sub_left hil (Nat.lt_succ_self i)⟩
  have e : rootsF k f roots (i + 1) = wset (rootsF k f roots i) (if i / k.C < k.H then .entry (i % k.C) (i / k.C) else .start (i % k.C)) (v % 20) := by
    show wset _ (rootW k i) ((roots[i]?).getD 0 % 20) = _
    rw [hvi]; rfl
  rw [e]; exact Z1

/-- The views are laid. -/
theorem laid_views (hx3 : RowN .u64 h.get x3 views) {cb bw : Nat} {f : Wd → Int} {g0 : H} (Z0 : LdAt k h g0 cb bw f)
    (K : AX × List V × H → Option (V × H)) (R : V × H → Prop)
    (hK : ∀ g : H, LdAt k h g cb bw (viewsF f views (min views.length k.C)) → Ev (K (.exit 6, S.withyref13_Laid_c8_O (.ptr cb 0) (.sl bw 0 k.size (.ex k.size)), g)) R) :
    Ev ((W.loop (S.withyref13_Laid_c8_B W) (S.withyref13_Laid_c8_E x3 (.ptr cb 0) (.sl bw 0 k.size (.ex k.size)) (.int .i64 0)) g0).bind K) R := by
  have hbd := Cfg.bounds hr
  have hR := Cfg.R_iff.mp hr
  have hc : k.c = (k.C : Int) := by unfold Cfg.C; omega
  have hv : k.v = .agg [.int .i64 k.s, .int .i64 k.a, .int .i64 k.c, .int .i64 k.hd, .int .i64 k.g, .int .i64 k.st] := rfl
  refine loop_ev (α := Nat) (fun i => S.withyref13_Laid_c8_E x3 (.ptr cb 0) (.sl bw 0 k.size (.ex k.size)) (.int .i64 (i : Nat)))
    (fun i g => i ≤ views.length ∧ i ≤ k.C ∧ LdAt k h g cb bw (viewsF f views i)) (fun i _ => views.length - i)
    (fun r => r.1 = .exit 6 ∧ r.2.1 = S.withyref13_Laid_c8_O (.ptr cb 0) (.sl bw 0 k.size (.ex k.size)) ∧ LdAt k h r.2.2 cb bw (viewsF f views (min views.length k.C)))
    0 rfl ⟨Nat.zero_le _, Nat.zero_le _, Z0⟩ ?_ ?_
  rotate_left
  · rintro ⟨_, _, g⟩ ⟨rfl, rfl, Z⟩
    exact hK g Z
  rintro i g ⟨hi, him, Z⟩
  rw [S.withyref13_Laid_c8_eq]
  have hl := (hx3.fr ok Z.fr (by simp) : RowN .u64 g.get x3 views).len
  have hcfg := Z.cfg
  unfold cfgB at hcfg
  have d1 := ld_lt i views.length
  by_cases hil : i < views.length
  rotate_left
  · rw [decide_eq_false hil] at d1
    have e : min views.length k.C = i := by clear d1; omega
    simp only [S.withyref13_Laid_c8_S, Option.bind_some, hl, d1]
    exact Ev.some (.inr ⟨by simp, rfl, rfl, by rw [e]; exact Z⟩)
  rw [decide_eq_true hil] at d1
  have d2 : decide ((i : Int) < k.c) = decide (i < k.C) := by rw [hc]; exact ld_lt i k.C
  by_cases himl : i < k.C
  rotate_left
  · rw [decide_eq_false himl] at d2
    have e : min views.length k.C = i := by clear d1 d2; omega
    simp only [S.withyref13_Laid_c8_S, ptrAt_ptr, Option.bind_some, ld1_get', ldN_get', ldB_cells, ldNB_cells, List.getElem?_cons_zero, List.getElem?_cons_succ, Nat.zero_add, Nat.reduceAdd, Nat.reduceLeDiff, V.one, asI_int, List.length_cons, List.length_nil, decide_true, List.take_succ_cons, List.take_zero, List.drop_zero, W_call, hl, d1, hcfg, d2]
    exact Ev.some (.inr ⟨by simp, rfl, rfl, by rw [e]; exact Z⟩)
  rw [decide_eq_true himl] at d2
  have hi1000 : i < 1000 := Nat.lt_of_lt_of_le himl (Nat.le_trans hbd.2.2.1.2 (by decide))
  obtain ⟨v, hvi⟩ : ∃ v, views[i]? = some v := ⟨_, List.getElem?_eq_getElem hil⟩
  obtain ⟨vb, f1, f2⟩ := (hx3.fr ok Z.fr (by simp)).at hvi
  have wi := ld_i hi1000
  simp only [ld1_get'] at f2
  have hwok : (Wd.view i).ok k := himl
  have hat := at_wd hr hwok
  rw [hv] at hat
  have hat' : ∀ h, C 108 [.agg [.int .i64 k.s, .int .i64 k.a, .int .i64 k.c, .int .i64 k.hd, .int .i64 k.g, .int .i64 k.st], .agg [.str ⟨⟨[118, 105, 101, 119]⟩⟩, .int .i64 (i : Int), .int .i64 0]] h = some (.int .i64 ((Wd.view i).pos k : Nat), h) := hat
  have hix := LdAt.ix (bw := bw) hwok
  have hst := Z.stB hwok v
  have Z1 := Z.put hwok v
  simp only [S.withyref13_Laid_c8_S, ptrAt_ptr, Option.bind_some, Option.map_some, ld1_get', ldN_get', st_get', ldB_cells, ldNB_cells, List.getElem?_cons_zero, List.getElem?_cons_succ, Nat.zero_add, Nat.reduceAdd, Nat.reduceLeDiff, V.one, V.cells, V.beq, ckB_some, asI_int, List.length_cons, List.length_nil, Nat.beq_refl, Bool.and_self, decide_true, List.take_succ_cons, List.take_zero, List.drop_zero, W_call, hl, d1, hcfg, d2, f1, f2, hat', hix, hst, wi]
  refine Ev.some (.inl ⟨i + 1, rfl, rfl, ⟨hil, himl, ?_⟩, Nat.sub_lt_sub_left hil (Nat.lt_succ_self i)⟩)
  have e : viewsF f views (i + 1) = wset (viewsF f views i) (.view i) v := by
    show wset _ _ ((views[i]?).getD 0) = _
    rw [hvi]; rfl
  rw [e]; exact Z1
end

/-- A heap is laid. -/
theorem laid_spec {k : Cfg} (hr : k.R = true) {h : H} (ok : h.ok) {x1 x2 x3 : V} {l : List Slt} {roots views : List Int} (hx : RowS h.get x1 l) (hu : ∀ y ∈ l, y.okS) (hx2 : RowN .u64 h.get x2 roots) (hu2 : ∀ w ∈ roots, U64 w) (hx3 : RowN .u64 h.get x3 views) (hu3 : ∀ w ∈ views, U64 w) :
    Ev (C 121 [k.v, x1, x2, x3] h) fun r => ∃ b, r.1 = .sl b 0 k.size (.ex k.size) ∧ Fr [] h r.2 ∧ h.next ≤ b ∧ r.2.get b = some (.cells ((k.row (laidW k l roots views)).map (.int .u64)) .rw) := by
  have hbd := Cfg.bounds hr
  refine call_ev (af := F.withyref13_Laid) (by kernel_rfl) rfl ?_
  obtain ⟨g0, bw, e0, f0, n0, n1, w0⟩ := Memory_spec hr (ok.new (.cells k.cs .rw))
  have hv : k.v = .agg [.int .i64 k.s, .int .i64 k.a, .int .i64 k.c, .int .i64 k.hd, .int .i64 k.g, .int .i64 k.st] := rfl
  have hcs : (Blk.cells k.cs .rw) = .cells [.int .i64 k.s, .int .i64 k.a, .int .i64 k.c, .int .i64 k.hd, .int .i64 k.g, .int .i64 k.st] .rw := rfl
  rw [hv, S.withyref13_Laid_eq]
  rw [hv, hcs] at e0
  rw [hcs] at f0
  have hfr0 : Fr [] h g0 := ((Fr.refl ok).new _).trans' f0
  have hcfg : g0.get h.next = some (cfgB k) := f0.get (ok.new _) (get_new_self _ _) (by simp)
  rw [H.next_new] at n0
  have Z0 : LdAt k h g0 h.next bw (laidS k l k.S) := ⟨hfr0, hcfg, by rw [laidS_top]; exact w0, Nat.le_refl _, by omega, by omega⟩
  have hks : k.s = (k.S : Int) := by have := Cfg.R_iff.mp hr; unfold Cfg.S; omega
  have ws : wr .i64 (k.s - 1) = (k.S : Int) - 1 := by rw [hks]; exact wr64 (by omega) (by omega)
  have hcfg' := hcfg
  unfold cfgB at hcfg'
  simp only [S.withyref13_Laid, Option.bind_some, ld1_get', ldN_get', get_new', ldB_cells, ldNB_cells, List.getElem?_cons_zero, Nat.zero_add, Nat.reduceAdd, Nat.reduceLeDiff, V.one, asI_int, List.length_cons, List.length_nil, decide_true, if_true, List.take_succ_cons, List.take_zero, List.drop_zero, W_call, e0, hcfg', ws]
  rw [← topL_S k l]
  refine loop_ev (α := Nat) (fun j => S.withyref13_Laid_c1_E x1 x2 x3 (.ptr h.next 0) (.sl bw 0 k.size (.ex k.size)) (.int .u64 (topL k l j)) (.int .i64 ((j : Int) - 1)))
    (fun j g => j ≤ k.S ∧ LdAt k h g h.next bw (laidS k l j)) (fun j _ => j)
    (fun r => r.1 = .exit 0 ∧ r.2.1 = S.withyref13_Laid_c1_O x2 x3 (.ptr h.next 0) (.sl bw 0 k.size (.ex k.size)) (.int .u64 (topL k l 0)) ∧ LdAt k h r.2.2 h.next bw (laidS k l 0))
    k.S rfl ⟨Nat.le_refl _, Z0⟩ ?_ ?_
  · rintro j g ⟨hj, Z⟩
    rw [S.withyref13_Laid_c1_eq]
    cases j with
    | zero =>
      have d : decide ((0 : Int) ≤ ((0 : Nat) : Int) - 1) = false := rfl
      simp only [S.withyref13_Laid_c1_S, d]
      exact Ev.some (.inr ⟨by simp, rfl, rfl, Z⟩)
    | succ s =>
      have e : ((s + 1 : Nat) : Int) - 1 = (s : Int) := by clear ws; omega
      rw [e]
      refine (laid_slot hr ok hx hu hj Z).mono ?_
      rintro ⟨_, _, g'⟩ ⟨rfl, rfl, Z1⟩
      exact .inl ⟨s, rfl, rfl, ⟨Nat.le_of_lt hj, Z1⟩, Nat.lt_succ_self s⟩
  rintro ⟨_, _, g⟩ ⟨rfl, rfl, Z⟩
  dsimp only at Z ⊢
  rw [S.withyref13_Laid_c1_e0_eq]
  have htok : (Wd.top).ok k := trivial
  have i3 : indexAV 1 (.sl bw 0 k.size (.ex k.size)) (.int .i64 3) = some (.ptr bw 3) := LdAt.ix (l := .top) trivial
  have hst : stB (g.get bw) 3 [.int .u64 (topL k l 0)] = _ := Z.stB (l := .top) htok (topL k l 0)
  simp only [S.withyref13_Laid_c1_e0, Option.bind_some, Option.map_some, st_get', Nat.zero_add, V.cells, List.length_cons, List.length_nil, Nat.beq_refl, i3, hst]
  refine laid_roots hr ok hx2 hu2 (Z.put (l := .top) htok (topL k l 0)) _ _ ?_
  intro g2 Z2
  show Ev (S.withyref13_Laid_K9 W (.exit 4) _ g2) _
  rw [S.withyref13_Laid_c6_e4_eq]
  simp only [S.withyref13_Laid_c6_e4]
  refine laid_views hr ok hx3 Z2 _ _ ?_
  intro g3 Z3
  show Ev (S.withyref13_Laid_K11 W (.exit 6) _ g3) _
  rw [S.withyref13_Laid_c8_e6_eq]
  have Z3 : LdAt k h g3 h.next bw (laidV k l roots views) := Z3
  have hU := fun w => laidV_U64 hr hu (roots := roots) hu3 w
  obtain ⟨⟨v1, g4⟩, e4, rfl, f4⟩ := refGrays13_spec hr Z3.fr.ok (c := .ex k.size) (⟨⟨_, Z3.row⟩, fun w _ => hU w⟩ : WordsAt k g3 bw (laidV k l roots views))
  rw [hv] at e4
  have Z4 := Z3.fr' f4
  have hcfg3 := Z3.cfg
  unfold cfgB at hcfg3
  have i2 : indexAV 1 (.sl bw 0 k.size (.ex k.size)) (.int .i64 2) = some (.ptr bw 2) := LdAt.ix (l := .grays) trivial
  have hgl := graysN_le k (laidV k l roots views)
  have hw : wr .u64 ((graysN k (laidV k l roots views) : Nat) : Int) = (graysN k (laidV k l roots views) : Nat) := wru64 (by omega) (by omega)
  have hst4 : stB (g4.get bw) 2 [.int .u64 ((graysN k (laidV k l roots views) : Nat) : Int)] = _ := Z4.stB (l := .grays) trivial _
  have Z5 := Z4.put (l := .grays) trivial ((graysN k (laidV k l roots views) : Nat) : Int)
  simp only [S.withyref13_Laid_c8_e6, Option.bind_some, Option.map_some, ldN_get', st_get', ldNB_cells, Nat.zero_add, Nat.reduceAdd, Nat.reduceLeDiff, V.cells, asIAny, List.length_cons, List.length_nil, Nat.beq_refl, decide_true, List.take_succ_cons, List.take_zero, List.drop_zero, W_call, hcfg3, e4, asIAny, hw, i2, hst4]
  exact Ev.some ⟨bw, rfl, Z5.fr, Z5.nbw, Z5.row⟩
end Wm
end

section
/- The document's example of a layer, run by the kernel. -/
namespace Wm
set_option maxRecDepth 100000 in
theorem awake14_run : runF prog meth 2000 200 192 [] .empty = some (.bool true, .empty) := by kernel_rfl
theorem awake14 (h : H) : C 192 [] h = some (.bool true, h) := call_closed_run (af := F.withylaw14_awake) (by kernel_rfl) rfl (by rw [← runF_eq]; exact awake14_run) h
end Wm
end

section
/- The law SweepSweeps, of my machine. -/
namespace Wm
attribute [local congr] bind_congr1
attribute [local irreducible] wr

theorem sweepF_head {k : Cfg} (f : Wd → Int) (e : Int) {q : Nat} (h : q < k.S) : sweepF f e k.S (.header q) = retired (f (.header q)) e := by simp [sweepF, h]
/-- A heap that is laid, and its memory. -/
theorem laid_mem {k : Cfg} (hr : k.R = true) {h : H} (ok : h.ok) {bw : Nat} {c : Cap} {kk : Bk} {f : Wd → Int} (hU : ∀ w, U64 (f w)) (hw : h.get bw = some (.cells ((k.row f).map (.int .u64)) kk)) :
    Ev (C 198 [.sl bw 0 k.size c] h) fun r => ∃ p q, r.1 = .ptr p 0 ∧ Fr [] h r.2 ∧ h.next ≤ p ∧ h.next ≤ q ∧ MemF r.2 p q k f 0 := by
  have hbd := Cfg.bounds hr
  have hsz : 4 ≤ k.size := by unfold Cfg.size Cfg.base; omega
  refine (memOf_spec (x := .sl bw 0 k.size c) (ws := k.row f) ok ⟨by rw [row_length]; omega, .inr ⟨bw, _, _, by rw [row_length], hw⟩⟩ (by intro q; have := row_length k f; rw [q] at this; simp only [List.length_nil] at this; omega) (by rw [row_length]; omega) (row_U64 hU)).mono ?_
  rintro r ⟨p, q, h1, h2, h3, h4, h5⟩
  exact ⟨p, q, h1, h2, h3, h4, _, h5⟩

end Wm
end

section
/- The headers of words: withylaw14.heads. -/
namespace Wm
attribute [local congr] bind_congr1
attribute [local irreducible] wr

/-- A row of headers that grew. -/
def HeadsAt (g : Nat → Option Blk) (x : V) (l : List Hdr) : Prop := Grown g x 6 (l.map Hdr.cs).flatten
theorem HeadsAt.fr {g g' : H} {L : List Nat} {x : V} {l : List Hdr} (G : HeadsAt g.get x l) (ok : g.ok) (F : Fr L g g') (h : ∀ b ∈ x.blk, b ∉ L) : HeadsAt g'.get x l := Grown.fr G ok F h
theorem HeadsAt.at {g : H} {x : V} {l : List Hdr} (G : HeadsAt g.get x l) {i : Nat} {y : Hdr} (hy : l[i]? = some y) : ∃ b, indexAV 6 x (.int .i64 (i : Int)) = some (.ptr b (i * 6)) ∧ ldNB (g.get b) (i * 6) 6 = some (.agg y.cs) ∧ b ∈ x.blk := by
  have hi := lt_of_get hy
  have hn : (l.map Hdr.cs).flatten.length = l.length * 6 := by rw [flat_length (hdrs6 l), List.length_map]
  obtain ⟨_, h0⟩ | ⟨b, n, rfl, hl, hb⟩ := G
  · rw [h0] at hn; simp only [List.length_nil] at hn; omega
  · rw [hn] at hl
    have hnl : n = l.length := by omega
    subst hnl
    refine ⟨b, sl_idx hi, ?_, by simp [V.blk]⟩
    rw [hb, ldNB_cells, decide_eq_true (by rw [hn]; omega), flat_part (hdrs6 l) i y.cs (by rw [List.getElem?_map, hy]; rfl)]
def headsL (f : Wd → Int) (n : Nat) : List Hdr := (List.range n).map fun q => unp (f (.header q))
theorem headsL_succ (f : Wd → Int) (n : Nat) : ((headsL f n).map Hdr.cs).flatten ++ (unp (f (.header n))).cs = ((headsL f (n + 1)).map Hdr.cs).flatten := by
  unfold headsL
  rw [List.range_succ, List.map_append, List.map_append, List.flatten_append]
  simp
theorem headsL_at {f : Wd → Int} {n q : Nat} (h : q < n) : (headsL f n)[q]? = some (unp (f (.header q))) := by
  unfold headsL
  rw [List.getElem?_map, List.getElem?_range h]; rfl
theorem headsL_len (f : Wd → Int) (n : Nat) : ((headsL f n).map Hdr.cs).flatten.length = n * 6 := by
  rw [flat_length (hdrs6 _), List.length_map]; unfold headsL; rw [List.length_map, List.length_range]

theorem heads_spec {k : Cfg} (hr : k.R = true) {h : H} (ok : h.ok) {b : Nat} {c : Cap} {f : Wd → Int} (Z : WordsAt k h b f) :
    Ev (C 200 [k.v, .sl b 0 k.size c] h) fun r => Fr [] h r.2 ∧ HeadsAt r.2.get r.1 (headsL f k.S) ∧ ∀ c ∈ r.1.blk, h.next ≤ c := by
  refine call_ev (af := F.withylaw14_heads) (by kernel_rfl) rfl ?_
  have hbd := Cfg.bounds hr
  have hks : k.s = (k.S : Int) := by have := Cfg.R_iff.mp hr; unfold Cfg.S; omega
  have hv : k.v = .agg [.int .i64 k.s, .int .i64 k.a, .int .i64 k.c, .int .i64 k.hd, .int .i64 k.g, .int .i64 k.st] := rfl
  rw [hv, S.withylaw14_heads_eq]
  simp only [S.withylaw14_heads]
  have F0 : Fr [] h (h.new (.cells [.int .i64 k.s, .int .i64 k.a, .int .i64 k.c, .int .i64 k.hd, .int .i64 k.g, .int .i64 k.st] .rw)) := (Fr.refl ok).new _
  refine loop_ev (α := Nat × V) (fun y => S.withylaw14_heads_c1_E (.sl b 0 k.size c) (.ptr h.next 0) y.2 (.int .i64 (y.1 : Nat)))
    (fun y g => y.1 ≤ k.S ∧ Fr [] h g ∧ g.get h.next = some (.cells [.int .i64 k.s, .int .i64 k.a, .int .i64 k.c, .int .i64 k.hd, .int .i64 k.g, .int .i64 k.st] .rw) ∧ HeadsAt g.get y.2 (headsL f y.1) ∧ (∀ c ∈ y.2.blk, h.next ≤ c ∧ c ≠ h.next)) (fun y _ => k.S - y.1)
    (fun r => ∃ x, r.1 = .exit 0 ∧ r.2.1 = S.withylaw14_heads_c1_O x ∧ Fr [] h r.2.2 ∧ HeadsAt r.2.2.get x (headsL f k.S) ∧ ∀ c ∈ x.blk, h.next ≤ c)
    (0, .nilsl) rfl ⟨Nat.zero_le _, F0, get_new_self _ _, Grown.nil _ _, by simp [V.blk]⟩ ?_ ?_
  rotate_left
  · rintro ⟨_, _, g⟩ ⟨x, rfl, rfl, F, G, hx⟩
    show Ev (S.withylaw14_heads_K2 W (.exit 0) _ g) _
    rw [S.withylaw14_heads_c1_e0_eq]
    exact Ev.some ⟨F, G, hx⟩
  rintro ⟨i, x⟩ g ⟨hi, F, hc, G, hx⟩
  dsimp only at hi F hc G hx ⊢
  rw [S.withylaw14_heads_c1_eq]
  have d1 : decide ((i : Int) < k.s) = decide (i < k.S) := by rw [hks]; exact gr_lt
  by_cases hik : i < k.S
  rotate_left
  · rw [decide_eq_false hik] at d1
    have he : i = k.S := Nat.le_antisymm hi (Nat.le_of_not_lt hik)
    subst he
    simp only [S.withylaw14_heads_c1_S, ptrAt_ptr, Option.bind_some, ld1_get', ldN_get', st_get', get_new', ldB_cells, ldNB_cells, stB_cells, List.getElem?_cons_zero, Nat.zero_add, Nat.add_zero, Nat.reduceAdd, Nat.reduceLeDiff, V.one, V.cells, asI_int, List.length_cons, List.length_nil, Bool.and_true, Bool.false_or, decide_true, decide_false, if_true, splice, List.take_succ_cons, List.take_zero, List.drop_zero, List.cons_append, List.nil_append, reduceCtorEq, fill, repl, opd, boxc, W_call, hc, d1]
    exact Ev.some (.inr ⟨by simp, x, rfl, rfl, F, G, fun c hc => (hx c hc).1⟩)
  rw [decide_eq_true hik] at d1
  have hok : (Wd.header i).ok k := hik
  have hi64 : i < 1000 := Nat.lt_of_lt_of_le hik (Nat.le_trans hbd.1.2 (by decide))
  have wi := gr_i hi64
  have Zg := Z.fr ok F (by simp)
  have hat := at_wd hr hok
  rw [hv] at hat
  have hat' : ∀ h, C 108 [.agg [.int .i64 k.s, .int .i64 k.a, .int .i64 k.c, .int .i64 k.hd, .int .i64 k.g, .int .i64 k.st], .agg [.str ⟨⟨[104, 101, 97, 100, 101, 114]⟩⟩, .int .i64 (i : Int), .int .i64 0]] h = some (.int .i64 ((Wd.header i).pos k : Nat), h) := hat
  have hix := words_ix (b := b) (c := c) hok
  have hld := Zg.ld hok
  have hU := Z.u64 _ hok
  have hUn := fun h => refUnp_spec hU h
  have hkk : (unp (f (.header i))).cs = [.int .i64 (unp (f (.header i))).kind, .int .i64 (unp (f (.header i))).mark, .bool (unp (f (.header i))).gray, .int .i64 (unp (f (.header i))).arity, .int .i64 (unp (f (.header i))).gen, .int .i64 (unp (f (.header i))).stamp] := rfl
  rw [hkk] at hUn
  have ok0 := F.ok
  have Fa : Fr [] g ((g.new (.cells [.int .i64 0, .int .i64 0, .bool false, .int .i64 0, .int .i64 0, .int .i64 0] .rw)).put g.next (some (.cells (unp (f (.header i))).cs .rw))) := ((Fr.refl ok0).new _).put (.inr (Nat.le_refl _)) (Nat.lt_succ_self _) _
  rw [hkk] at Fa
  generalize hga : ((g.new (.cells [.int .i64 0, .int .i64 0, .bool false, .int .i64 0, .int .i64 0, .int .i64 0] .rw)).put g.next (some (.cells [.int .i64 (unp (f (.header i))).kind, .int .i64 (unp (f (.header i))).mark, .bool (unp (f (.header i))).gray, .int .i64 (unp (f (.header i))).arity, .int .i64 (unp (f (.header i))).gen, .int .i64 (unp (f (.header i))).stamp] .rw))) = ga at Fa
  have hla : g.next ≤ ga.next := Fa.le
  have Fb : Fr [] ga (ga.new (.cells (unp (f (.header i))).cs .rw)) := (Fr.refl Fa.ok).new _
  have hlb := Fb.le
  have hlen : ((headsL f i).map Hdr.cs).flatten.length ≤ 1000000 := by rw [headsL_len]; omega
  obtain ⟨x', g', e', F', G', hn', _⟩ := Grown.push Fb.ok (bytes := 48) ((HeadsAt.fr (HeadsAt.fr G ok0 Fa (by simp)) Fa.ok Fb (by simp)) : Grown _ x 6 _) (get_new_self ga _) rfl rfl (by decide) ⟨by decide, by decide⟩ hlen
  rw [hkk] at e'
  have hcl := ok0.lt hc
  have hga2 : ga.next = g.next + 1 := by rw [← hga]; rfl
  have hgag : ga.get g.next = some (.cells [.int .i64 (unp (f (.header i))).kind, .int .i64 (unp (f (.header i))).mark, .bool (unp (f (.header i))).gray, .int .i64 (unp (f (.header i))).arity, .int .i64 (unp (f (.header i))).gen, .int .i64 (unp (f (.header i))).stamp] .rw) := by rw [← hga]; exact get_put_self _ _ _
  have F0' : Fr x.blk g g' := ((Fa.mono (by simp)).trans' (Fb.mono (by simp))).trans' F'
  simp only [S.withylaw14_heads_c1_S, ptrAt_ptr, Option.bind_some, Option.map_some, ld1_get', ldN_get', st_get', get_put', get_new', ldB_cells, ldNB_cells, stB_cells, H.next_new, H.next_put, List.getElem?_cons_zero, List.getElem?_cons_succ, Nat.zero_add, Nat.add_zero, Nat.reduceAdd, Nat.reduceLeDiff, V.one, V.cells, asI_int, List.length_cons, List.length_nil, Nat.beq_refl, List.all_cons, List.all_nil, Bool.and_true, Bool.not_true, Bool.false_or, Bool.or_self, Bool.and_self, decide_true, decide_false, if_true, splice, List.take_succ_cons, List.take_zero, List.drop_succ_cons, List.drop_zero, List.cons_append, List.nil_append, reduceCtorEq, fill, repl, opd, boxc, W_call, hc, d1, hat', hix, hld, hUn, wi]
  rw [hga]
  rw [hga2] at e'
  simp only [Option.bind_some, e']
  refine Ev.some (.inl ⟨(i + 1, x'), rfl, rfl, ⟨hik, F.trans F0' fun c hc => .inr (hx c hc).1, F0'.get ok0 hc (fun hm => (hx _ hm).2 rfl), ?_, fun c hc => ?_⟩, Nat.sub_lt_sub_left hik (Nat.lt_succ_self i)⟩)
  · show Grown _ _ 6 _
    rw [← headsL_succ]; exact G'
  · have h1 : g.next ≤ c := Nat.le_trans hla (Nat.le_trans hlb (hn' c hc))
    exact ⟨Nat.le_trans F.le h1, fun q => absurd hcl (Nat.not_lt_of_le (q ▸ h1))⟩
end Wm
end

section
/- The law SweepShades, of my machine. -/
namespace Wm
attribute [local congr] bind_congr1
attribute [local irreducible] wr

/-- The other mark. -/
def flipH (y : Hdr) : Hdr := { y with mark := 1 - y.mark }
theorem flip_right {y : Hdr} (h : y.right = true) : (flipH y).right = true := by
  obtain ⟨h1, h2, h3, h4, h5⟩ := (right_iff y).mp h
  refine (right_iff _).mpr ⟨h1, ?_, h3, h4, h5⟩
  unfold flipH; simp only; omega
theorem flip_ne {y : Hdr} (h : y.right = true) : y.word ≠ (flipH y).word := fun e => by
  have h1 := unp_word h
  have h2 := unp_word (flip_right h)
  rw [e, h2] at h1
  have : (flipH y).mark = y.mark := congrArg Hdr.mark h1
  have hm := ((right_iff y).mp h).2.1
  unfold flipH at this; simp only at this; omega
theorem flip_marked {y : Hdr} {e : Int} (h : y.right = true) (hk : y.kind = 1) (hm : markedW y.word e = false) : white y.word e = true ∧ white (flipH y).word e = false := by
  have hb := black_01 e
  have hy := ((right_iff y).mp h).2.1
  have u1 := unp_word h
  have u2 := unp_word (flip_right h)
  have o1 := okT_word h
  have hl : lives y.word = true := by unfold lives; rw [u1, hk, o1]; rfl
  unfold markedW at hm
  rw [hl, Bool.true_and, u1] at hm
  have hne : ¬ y.mark = black e := of_decide_eq_false hm
  refine ⟨(white_iff _ _).mpr ⟨hl, by rw [u1]; exact hne⟩, ?_⟩
  cases hw : white (flipH y).word e with
  | false => rfl
  | true =>
    have := ((white_iff _ _).mp hw).2
    rw [u2] at this
    unfold flipH at this
    simp only at this
    omega
theorem zero_white (e : Int) : white Hdr.zero.word e = false := by
  cases hw : white Hdr.zero.word e with
  | false => rfl
  | true =>
    have := ((white_iff _ _).mp hw).1
    have h : lives Hdr.zero.word = false := by decide
    rw [h] at this; cases this

theorem goneN_zero {f : Wd → Int} {e : Int} {n : Nat} (h : ∀ q, q < n → white (f (.header q)) e = false) : goneN f e n = 0 := by
  unfold goneN
  rw [List.length_eq_zero_iff, List.filter_eq_nil_iff]
  intro q hq
  rw [h q (List.mem_range.mp hq)]; simp

theorem hdr_eq (a b : Int) (c : Bool) (d f g : Int) : eqOffs [V.int .i64 a, .int .i64 b, .bool c, .int .i64 d, .int .i64 f, .int .i64 g] [V.int .i64 a, .int .i64 b, .bool c, .int .i64 d, .int .i64 f, .int .i64 g] [(0, .int), (1, .int), (2, .bool), (3, .int), (4, .int), (5, .int)] = some true := by
  simp [eqOffs, eqCell]

def shSweepShades : List (Bool × List CSh) := [(true, [.int .i64, .int .i64, .int .i64, .int .i64, .int .i64, .int .i64]), (false, [.int .u64]), (true, [.int .i64, .int .i64, .bool, .int .i64, .int .i64, .int .i64])]

theorem sd_3 {k : Cfg} (hr : k.R = true) : wr .i64 ((wr .i64 (2 * k.s)) + 3) = ((2 * k.S + 3 : Nat) : Int) ∧ 2 * k.S + 3 < 1000000 := by
  have := Cfg.R_iff.mp hr
  have h2 := (Cfg.bounds hr).1
  have hks : k.s = (k.S : Int) := by unfold Cfg.S; omega
  rw [hks, wr64 (n := 2 * (k.S : Int)) (by omega) (by omega), wr64 (by omega) (by omega)]
  omega
theorem sd_m {m : Int} (h : 0 ≤ m ∧ m ≤ 1) : wr .i64 (1 - m) = 1 - m := wr64 (by omega) (by omega)

/-- The law's heap: one slot. -/
def oneS (y : Hdr) : List Slt := [⟨y, .nilsl, []⟩]
theorem oneS_head {k : Cfg} {y : Hdr} (hy : y.right = true) (hS : 0 < k.S) (q : Nat) (hq : q < k.S) : laidW k (oneS y) [] [] (.header q) = if q = 0 then y.word else Hdr.zero.word := by
  have h1 : laidW k (oneS y) [] [] (.header q) = (hdL (oneS y) q).word := by
    unfold laidW
    rw [wset_ne (by simp)]
    unfold laidV
    rw [List.length_nil, Nat.zero_min, Nat.zero_min]
    show laidT k (oneS y) (.header q) = _
    unfold laidT
    rw [wset_ne (by simp)]
    simp [laidS]
  rw [h1]
  cases q with
  | zero => simp [hdL, oneS, hy]
  | succ q => simp [hdL, oneS]

theorem sd_walk {h : H} (ok : h.ok) (s a c hd g st : Int) {e : Int} (hE : U64 e) (y0 y1 : Int) (y2 : Bool) (y3 y4 y5 : Int) : Ev (S.withylaw14_SweepShades W s a c hd g st e y0 y1 y2 y3 y4 y5 h) fun r => r.1 = .bool true := by
  have hfit := Fit_spec ⟨s, a, c, hd, g, st⟩
  have hr := Cfg.fit_R ⟨s, a, c, hd, g, st⟩
  generalize Cfg.fit ⟨s, a, c, hd, g, st⟩ = k at hfit hr
  have hv : ∀ k : Cfg, k.v = .agg [.int .i64 k.s, .int .i64 k.a, .int .i64 k.c, .int .i64 k.hd, .int .i64 k.g, .int .i64 k.st] := fun _ => rfl
  rw [hv, hv] at hfit
  simp only at hfit
  have hne : h.next ≠ h.next + 1 := Nat.ne_of_lt (Nat.lt_succ_self _)
  have hRt := fun h => refRight_spec ⟨1, y1, y2, y3, y4, y5⟩ h
  generalize hY : (⟨1, y1, y2, y3, y4, y5⟩ : Hdr) = y at hRt
  have hcs : y.cs = [.int .i64 1, .int .i64 y1, .bool y2, .int .i64 y3, .int .i64 y4, .int .i64 y5] := by rw [← hY]; rfl
  have hk1 : y.kind = 1 := by rw [← hY]
  have hm1 : y.mark = y1 := by rw [← hY]
  rw [hcs] at hRt
  cases hyr : y.right with
  | false =>
    rw [hyr] at hRt
    simp only [S.withylaw14_SweepShades, Option.bind_some, Option.map_some, ld1_get', ldN_get', st_get', get_put', get_new', ldNB_cells, stB_cells, H.next_new, Nat.zero_add, Nat.reduceAdd, Nat.reduceLeDiff, V.one, V.cells, asB_bool, List.length_cons, List.length_nil, Nat.beq_refl, List.all_cons, List.all_nil, Bool.and_true, Bool.not_true, Bool.not_false, Bool.or_self, Bool.and_self, decide_true, decide_false, if_true, if_false, splice, List.take_succ_cons, List.take_zero, List.drop_succ_cons, List.drop_zero, List.cons_append, List.nil_append, reduceCtorEq, fill, repl, opd, boxc, eqV, W_call, hfit, hne, hne.symm, hRt, awake14]
    exact Ev.some rfl
  | true =>
  rw [hyr] at hRt
  have hPk := fun h => refPack_spec hyr h
  rw [hcs] at hPk
  have hMk := fun h => refMarked_spec (word_U64 hyr) hE h
  cases hmk : markedW y.word e with
  | true =>
    rw [hmk] at hMk
    simp only [S.withylaw14_SweepShades, Option.bind_some, Option.map_some, ld1_get', ldN_get', st_get', get_put', get_new', ldNB_cells, stB_cells, H.next_new, Nat.zero_add, Nat.reduceAdd, Nat.reduceLeDiff, V.one, V.cells, asB_bool, List.length_cons, List.length_nil, Nat.beq_refl, List.all_cons, List.all_nil, Bool.and_true, Bool.not_true, Bool.or_self, Bool.and_self, decide_true, decide_false, if_true, if_false, splice, List.take_succ_cons, List.take_zero, List.drop_succ_cons, List.drop_zero, List.cons_append, List.nil_append, reduceCtorEq, fill, repl, opd, boxc, eqV, W_call, hfit, hne, hne.symm, hRt, hPk, hMk, awake14]
    exact Ev.some rfl
  | false =>
  rw [hmk] at hMk
  obtain ⟨hw1, hw2⟩ := flip_marked hyr hk1 hmk
  simp only [S.withylaw14_SweepShades, Option.bind_some, Option.map_some, ld1_get', ldN_get', st_get', get_put', get_new', ldNB_cells, stB_cells, H.next_new, H.next_put, Nat.zero_add, Nat.reduceAdd, Nat.reduceLeDiff, V.one, V.cells, asB_bool, List.length_cons, List.length_nil, Nat.beq_refl, List.all_cons, List.all_nil, Bool.and_true, Bool.not_true, Bool.or_self, Bool.and_self, decide_true, decide_false, if_true, if_false, splice, List.take_succ_cons, List.take_zero, List.drop_succ_cons, List.drop_zero, List.cons_append, List.nil_append, reduceCtorEq, fill, repl, opd, boxc, eqV, W_call, hfit, hne, hne.symm, hRt, hPk, hMk, awake14]
  have hbd := Cfg.bounds hr
  have hS0 : 0 < k.S := hbd.1.1
  have hn2 : h.next ≠ h.next + 1 + 1 := by omega
  have hn3 : h.next + 1 ≠ h.next + 1 + 1 := by omega
  generalize hg0 : (((((h.new _).new _).put h.next _).put (h.next + 1) _).new _) = g0
  have hc0 : g0.get h.next = some (.cells [.int .i64 k.s, .int .i64 k.a, .int .i64 k.c, .int .i64 k.hd, .int .i64 k.g, .int .i64 k.st] .rw) := by
    rw [← hg0]; simp only [get_put', get_new', H.next_new, H.next_put, if_true, if_false, hne, hn2]
  have hy0 : g0.get (h.next + 1) = some (.cells [.int .i64 1, .int .i64 y1, .bool y2, .int .i64 y3, .int .i64 y4, .int .i64 y5] .rw) := by
    rw [← hg0]; simp only [get_put', get_new', H.next_new, H.next_put, if_true, if_false, hn3]
  have hs0 : g0.get (h.next + 1 + 1) = some (.cells [.int .i64 1, .int .i64 y1, .bool y2, .int .i64 y3, .int .i64 y4, .int .i64 y5, .nilsl] .rw) := by
    rw [← hg0]; simp only [get_put', get_new', H.next_new, H.next_put, Nat.reduceEqDiff, if_true]
  have f0 : Fr [] h g0 := by
    rw [← hg0]
    exact ((((Fr.refl ok).new _).new _).put (.inr (Nat.le_refl _)) (by show h.next < h.next + 1 + 1; omega) _ |>.put (.inr (Nat.le_succ _)) (by show h.next + 1 < h.next + 1 + 1; omega) _).new _
  clear hg0
  have hrow : RowS g0.get (.sl (h.next + 1 + 1) 0 1 (.ex 1)) (oneS y) := ⟨.inr ⟨_, _, .rw, rfl, by rw [hs0, ← hY]; rfl⟩, fun z hz => by
    unfold oneS at hz; rw [List.mem_singleton] at hz; subst hz; exact .inl ⟨rfl, rfl⟩⟩
  have hu : ∀ z ∈ oneS y, z.okS := fun z hz => by
    unfold oneS at hz; rw [List.mem_singleton] at hz; subst hz; exact ⟨right_i64 hyr, by simp⟩
  have hLd := laid_spec hr f0.ok (x2 := .nilsl) (x3 := .nilsl) (roots := []) (views := []) hrow hu (.inl ⟨rfl, rfl⟩) (by simp) (.inl ⟨rfl, rfl⟩) (by simp)
  rw [hv] at hLd
  have hU : ∀ w, U64 (laidW k (oneS y) [] [] w) := fun w => laidW_U64 hr hu (by simp) w
  have hF := fun q hq => oneS_head (k := k) hyr hS0 q hq
  generalize laidW k (oneS y) [] [] = f at hLd hU hF
  have hF0 : f (.header 0) = y.word := by rw [hF 0 hS0, if_pos rfl]
  refine Ev.bind hLd ?_
  rintro ⟨_, g1⟩ ⟨bw, rfl, F1, hbw, w1⟩
  dsimp only at F1 w1 ⊢
  have ok1 := F1.ok
  have hc1 := F1.get f0.ok hc0 (by simp)
  have hy1 := F1.get f0.ok hy0 (by simp)
  refine Ev.bind (laid_mem hr ok1 hU w1) ?_
  rintro ⟨_, g2⟩ ⟨p, pw, rfl, F2, hp, hpw, M2⟩
  dsimp only at F2 M2 ⊢
  have ok2 := F2.ok
  have hc2 := F2.get ok1 hc1 (by simp)
  have hy2 := F2.get ok1 hy1 (by simp)
  have hNS := newSweep_spec hr e ok2
  rw [hv] at hNS
  simp only [eqPtr_ptr, Option.bind_some, ldNB_cells, Nat.zero_add, Nat.reduceAdd, Nat.reduceLeDiff, List.length_cons, List.length_nil, decide_true, List.take_succ_cons, List.take_zero, List.drop_zero, hc2]
  refine Ev.bind hNS ?_
  rintro ⟨_, g3⟩ ⟨b, rfl, F3, hb, Z3⟩
  dsimp only at F3 Z3 ⊢
  have ok3 := F3.ok
  have hc3 := F3.get ok2 hc2 (by simp)
  have hy3 := F3.get ok2 hy2 (by simp)
  obtain ⟨pl, pwl, pne⟩ := M2.lt ok2
  have nb1 : b ≠ p := Nat.ne_of_gt (Nat.lt_of_lt_of_le pl hb)
  have nb2 : b ≠ pw := Nat.ne_of_gt (Nat.lt_of_lt_of_le pwl hb)
  have M3 := M2.fr ok2 F3 (by simp) (by simp)
  have nh : ∀ {c : Nat}, c < g1.next → c ∉ [b, p, pw] := fun {c} hc => by
    have h1 : c ≠ p := fun q => absurd hc (Nat.not_lt_of_le (q ▸ hp))
    have h2 : c ≠ pw := fun q => absurd hc (Nat.not_lt_of_le (q ▸ hpw))
    have h3 : c ≠ b := fun q => absurd (Nat.lt_of_lt_of_le hc F2.le) (Nat.not_lt_of_le (q ▸ hb))
    simp [h1, h2, h3]
  have nc := nh (ok1.lt hc1)
  have ny := nh (ok1.lt hy1)
  have hS1 : ¬ (0 : Nat) = k.S := by omega
  have e1 : Swp.step k e ⟨0, 0, 0, false⟩ f = (⟨0, 0, y.word, true⟩, f) := by
    simp only [Swp.step, hS1, if_false, Bool.false_eq_true, hF0, hw1, if_true]
  have hst := Z3.step ok3 hr hE M3 nb1 nb2
  rw [e1] at hst
  have d1 : decide ((0 : Nat) = k.S) = false := decide_eq_false hS1
  simp only [nilc_ptr, eqPtr_ptr, ptrAt_ptr, Option.bind_some, ld1_get', Nat.add_zero]
  refine Ev.bind hst ?_
  rintro ⟨_, g4⟩ ⟨rfl, F4, Z4, M4⟩
  dsimp only at F4 Z4 M4 ⊢
  have ok4 := F4.ok
  have hc4 := F4.get ok3 hc3 nc
  have hy4 := F4.get ok3 hy3 ny
  have hmb : 0 ≤ y1 ∧ y1 ≤ 1 := hm1 ▸ ((right_iff y).mp hyr).2.1
  have wm := sd_m hmb
  have hfr := flip_right hyr
  have hfcs : (flipH y).cs = [.int .i64 1, .int .i64 (1 - y1), .bool y2, .int .i64 y3, .int .i64 y4, .int .i64 y5] := by unfold flipH; rw [← hY]; rfl
  have hPf := fun h => refPack_spec hfr h
  rw [hfcs] at hPf
  have hhok : (Wd.header 0).ok k := hS0
  have hat := at_wd hr hhok
  rw [hv] at hat
  have hat' : ∀ h, C 108 [.agg [.int .i64 k.s, .int .i64 k.a, .int .i64 k.c, .int .i64 k.hd, .int .i64 k.g, .int .i64 k.st], .agg [.str ⟨⟨[104, 101, 97, 100, 101, 114]⟩⟩, .int .i64 0, .int .i64 0]] h = some (.int .i64 ((Wd.header 0).pos k : Nat), h) := hat
  have F5 : Fr [h.next + 1] g4 (g4.put (h.next + 1) (some (.cells [.int .i64 1, .int .i64 (1 - y1), .bool y2, .int .i64 y3, .int .i64 y4, .int .i64 y5] .rw))) := (Fr.refl ok4).put (.inl (by simp)) (ok4.lt hy4) _
  have npy : p ≠ h.next + 1 ∧ pw ≠ h.next + 1 ∧ b ≠ h.next + 1 := by
    simp only [List.mem_cons, List.not_mem_nil, or_false, not_or] at ny
    exact ⟨Ne.symm ny.2.1, Ne.symm ny.2.2, Ne.symm ny.1⟩
  have M5 := M4.fr ok4 F5 (by simp [npy.1]) (by simp [npy.2.1])
  simp only [Option.bind_some, Option.map_some, get_put', ldB_cells, ldNB_cells, stB_cells, List.getElem?_cons_zero, List.getElem?_cons_succ, Nat.zero_add, Nat.reduceAdd, Nat.reduceLeDiff, V.one, V.beq, V.beqs, ckB_some, asI_int, asB_bool, List.length_cons, List.length_nil, List.all_cons, List.all_nil, Bool.not_true, Bool.or_self, Bool.and_self, decide_true, decide_false, if_true, if_false, splice, List.take_succ_cons, List.take_zero, List.drop_succ_cons, List.drop_zero, List.cons_append, List.nil_append, reduceCtorEq, d1, hy4, hc4, hne, wm, hat', hPf, BEq.rfl]
  refine Ev.bind (M5.store' F5.ok hhok (word_U64 hfr)) ?_
  rintro ⟨_, g6⟩ ⟨rfl, F6, M6⟩
  dsimp only at F6 M6 ⊢
  have ok6 := F6.ok
  have hc6 := F6.get F5.ok (F5.get ok4 hc4 (by simp [])) (by
    simp only [List.mem_cons, List.not_mem_nil, or_false, not_or] at nc ⊢; exact ⟨nc.2.1, nc.2.2⟩)
  have hy6 := F6.get F5.ok (get_put_self _ _ _) (by simp [npy.1.symm, npy.2.1.symm])
  have Z6 := (Z4.fr ok4 F5 (by simp [npy.2.2])).fr F5.ok F6 (by simp [nb1, nb2])
  generalize hf1 : wset f (.header 0) (flipH y).word = f1 at M6
  have hFf : ∀ q, q < k.S → white (f1 (.header q)) e = false := fun q hq => by
    rw [← hf1]
    by_cases h0 : q = 0
    · subst h0; rw [wset_same]; exact hw2
    · rw [wset_ne (by simp [h0]), hF q hq, if_neg h0]; exact zero_white e
  have hf10 : f1 (.header 0) = (flipH y).word := by rw [← hf1, wset_same]
  obtain ⟨w3, m3⟩ := sd_3 hr
  have e2 : ∀ n, swpX k e (⟨0, 0, y.word, true⟩, f1, n) = (⟨0, 0, y.word, false⟩, f1, wr .i64 (n + 1)) := fun n => by
    simp only [swpX, Swp.step, Swp.works, hS1, if_false, if_true, hf10, (flip_ne hyr).symm, decide_false, Bool.not_false]
  have hgz : goneN f1 e k.S = 0 := goneN_zero hFf
  have G : ∀ n, Go (swpX k e) (swpFin k) (2 * k.S + 3) (⟨0, 0, y.word, true⟩, f1, n) (fun x => x.1.gone = 0 ∧ x.2.1 = sweepF f1 e k.S) := fun n => by
    obtain ⟨S', hS'⟩ : ∃ S', k.S = S' + 1 := ⟨k.S - 1, by clear wm w3; omega⟩
    have := sweep_go (k := k) (e := e) (f := f1) (Q := fun x => x.1.gone = 0 ∧ x.2.1 = sweepF f1 e k.S) (fun was n => ⟨hgz, rfl⟩) S' 0 y.word (wr .i64 (n + 1)) (by rw [hS', Nat.zero_add])
    rw [sweepF_zero, ← hS'] at this
    exact Go.next _ (e2 n) (fun h => hS1 h) (Go.more 2 this)
  have hEnds := sweep_ends hr hE ok6 nb1 nb2 Z6 M6 hS1 (most := ((2 * k.S + 3 : Nat) : Int)) (Int.le_refl _) m3 (G _)
  generalize ((2 * k.S + 3 : Nat) : Int) = most at w3 hEnds
  simp only [Option.bind_some, ldB_cells, List.getElem?_cons_zero, V.one, asI_int, hc6, w3]
  refine Ev.bind hEnds ?_
  rintro ⟨_, g7⟩ ⟨rfl, ⟨s7, f7, n7⟩, ⟨hs7, hf7⟩, _, F7, Z7, M7⟩
  dsimp only at hs7 hf7 F7 Z7 M7 ⊢
  subst hf7
  have ok7 := F7.ok
  have hc7 := F7.get ok6 hc6 nc
  have hy7 := F7.get ok6 hy6 ny
  have hown := Z7.own
  rw [hs7] at hown
  have z0 : decide (((0 : Nat) : Int) = 0) = true := rfl
  simp only [Option.bind_some, ldB_cells, ldNB_cells, List.getElem?_cons_zero, Nat.zero_add, Nat.reduceAdd, Nat.reduceLeDiff, V.one, asI_int, List.length_cons, List.length_nil, decide_true, List.take_succ_cons, List.take_zero, List.drop_zero, hown, z0, hc7, hy7]
  refine Ev.bind (M7.words ok7) ?_
  rintro ⟨_, g8⟩ ⟨q, rfl, F8, hq, hq8⟩
  dsimp only at F8 hq8 ⊢
  have ok8 := F8.ok
  have hc8 := F8.get ok7 hc7 (by simp)
  have hy8 := F8.get ok7 hy7 (by simp)
  have hHs := heads_spec hr ok8 (c := .op 1) (⟨⟨_, hq8⟩, fun w hw => M7.u64 hw⟩ : WordsAt k g8 q (sweepF f1 e k.S))
  rw [hv] at hHs
  simp only [ldNB_cells, Nat.zero_add, Nat.reduceAdd, Nat.reduceLeDiff, V.beq, V.beqs, ckB_some, List.length_cons, List.length_nil, Bool.and_self, decide_true, List.take_succ_cons, List.take_zero, List.drop_zero, hc8, hy8, BEq.rfl]
  refine Ev.bind hHs ?_
  rintro ⟨x9, g9⟩ ⟨F9, G9, _⟩
  dsimp only at F9 G9 ⊢
  have hy9 := F9.get ok8 hy8 (by simp)
  have hh0 : unp (sweepF f1 e k.S (.header 0)) = flipH y := by
    rw [sweepF_head f1 e hS0, retired_same (hFf 0 hS0), hf10, unp_word hfr]
  have h0at := headsL_at (f := sweepF f1 e k.S) hS0
  rw [hh0] at h0at
  obtain ⟨xb, ix, il, _⟩ := G9.at h0at
  have ix : indexAV 6 x9 (.int .i64 0) = some (.ptr xb (0 * 6)) := ix
  rw [hfcs] at il
  simp only [Option.bind_some, ldN_get', ldNB_cells, Nat.zero_add, Nat.reduceAdd, Nat.reduceLeDiff, Nat.reduceMul, V.beq, V.beqs, ckB_some, List.length_cons, List.length_nil, Bool.and_self, decide_true, List.take_succ_cons, List.take_zero, List.drop_zero, hy9, ix, il, BEq.rfl, hdr_eq]
  exact Ev.some rfl

theorem lawSweepShades (h : H) (us : List V) (ok : h.ok) (ha : ArgsOk h.get shSweepShades us) : Ev (C 43 us h) fun r => r.1 = .bool true := by
  obtain ⟨_, _, rfl, ⟨_, rfl, _, _, rfl, ⟨s, rfl, _⟩, _, _, rfl, ⟨a, rfl, _⟩, _, _, rfl, ⟨c, rfl, _⟩, _, _, rfl, ⟨hd, rfl, _⟩, _, _, rfl, ⟨g, rfl, _⟩, _, _, rfl, ⟨st, rfl, _⟩, rfl⟩, _, _, rfl, ⟨_, _, he, ⟨e, rfl, be⟩, rfl⟩, _, _, rfl, ⟨_, rfl, _, _, rfl, ⟨y0, rfl, b0⟩, _, _, rfl, ⟨y1, rfl, b1⟩, _, _, rfl, ⟨y2, rfl⟩, _, _, rfl, ⟨y3, rfl, b3⟩, _, _, rfl, ⟨y4, rfl, b4⟩, _, _, rfl, ⟨y5, rfl, b5⟩, rfl⟩, rfl⟩ := ha
  cases he
  refine ⟨_, call_closed (v := .bool true) (af := F.withylaw14_SweepShades) (by kernel_rfl) rfl (by rfl) (by rfl) h ?_, rfl⟩
  rw [S.withylaw14_SweepShades_eq]
  exact sd_walk H.ok_empty s a c hd g st (wf_u64 be) y0 y1 y2 y3 y4 y5
end Wm
end

