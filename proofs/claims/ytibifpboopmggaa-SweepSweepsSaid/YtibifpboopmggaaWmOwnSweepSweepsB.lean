/- What the functions come to, and the law: of my machine. -/
import Derived.Test.YtibifpboopmggaaWmOwnSweepSweepsA
import Derived.Test.YtibifpboopmggaaWmTxtSweepSweepsA
import Derived.Test.YtibifpboopmggaaWmProgSweepSweeps
import Derived.Test.YtibifpboopmggaaWmFast
import Derived.Test.YtibifpboopmggaaWmPOp0
set_option linter.all false
section
/- Heaps that are laid by the document: withyref13.Laid. -/
namespace Wm
attribute [local congr] bind_congr1
attribute [local irreducible] wr

def cfgB (k : Cfg) : Blk := .cells [.int .i64 k.s, .int .i64 k.a, .int .i64 k.c, .int .i64 k.hd, .int .i64 k.g, .int .i64 k.st] .rw
/-- What stands where while a heap is laid. -/
structure LdAt (k : Cfg) (h g : H) (cb bw : Nat) (f : Wd → Int) : Prop where
  fr : Fr [] h g
  cfg : g.get cb = some (cfgB k)
  row : g.get bw = some (.cells ((k.row f).map (.int .u64)) .rw)
  ncb : h.next ≤ cb
  nbw : h.next ≤ bw
  ne : cb ≠ bw
theorem LdAt.fr' {k : Cfg} {h g g' : H} {cb bw : Nat} {f : Wd → Int} (Z : LdAt k h g cb bw f) (F : Fr [] g g') : LdAt k h g' cb bw f :=
  ⟨Z.fr.trans' F, F.get Z.fr.ok Z.cfg (by simp), F.get Z.fr.ok Z.row (by simp), Z.ncb, Z.nbw, Z.ne⟩
theorem LdAt.set {k : Cfg} {h g : H} {cb bw : Nat} {f : Wd → Int} (Z : LdAt k h g cb bw f) {l : Wd} (hl : l.ok k) {v : Int} {cs : List V} (hcs : cs = ((k.row f).map (V.int .u64)).take (l.pos k) ++ [.int .u64 v] ++ ((k.row f).map (V.int .u64)).drop (l.pos k + 1)) : LdAt k h (g.put bw (some (.cells cs .rw))) cb bw (wset f l v) := by
  have ok := Z.fr.ok
  have hbl := ok.lt Z.row
  refine ⟨Z.fr.put (.inr Z.nbw) hbl _, by rw [get_put_ne Z.ne]; exact Z.cfg, ?_, Z.ncb, Z.nbw, Z.ne⟩
  rw [get_put_self, hcs, row_splice (by rw [row_length]; exact pos_lt hl), row_set hl]
theorem LdAt.row_eq {k : Cfg} {h g : H} {cb bw : Nat} {f f' : Wd → Int} (Z : LdAt k h g cb bw f) (e : k.row f = k.row f') : LdAt k h g cb bw f' :=
  ⟨Z.fr, Z.cfg, e ▸ Z.row, Z.ncb, Z.nbw, Z.ne⟩
/-- A store into the words. -/
theorem LdAt.le {k : Cfg} {f : Wd → Int} {l : Wd} (hl : l.ok k) : decide (l.pos k + 1 ≤ ((k.row f).map (V.int .u64)).length) = true := decide_eq_true (by rw [List.length_map, row_length]; exact pos_lt hl)

theorem ld_i {i : Nat} (h : i < 1000) : wr .i64 ((i : Int) + 1) = ((i + 1 : Nat) : Int) := by rw [wr64 (by omega) (by omega)]; rfl
theorem room_int {k : Cfg} (hr : k.R = true) : (if k.a < 3 then 3 else k.a) = (k.room : Int) := by
  have := Cfg.R_iff.mp hr
  unfold Cfg.room; split <;> omega
theorem ld_lt (i n : Nat) : decide ((i : Int) < (n : Int)) = decide (i < n) := by congr 1; apply propext; omega

/-- A body is laid. -/
theorem laid_body {k : Cfg} (hr : k.R = true) {h : H} (ok : h.ok) {x1 x2 x3 : V} {l : List Slt} (hx : RowS h.get x1 l) (hu : ∀ y ∈ l, y.okS) {s : Nat} (hs : s < k.S) {y : Slt} (hy : l[s]? = some y) {cb bw hb : Nat} {f : Wd → Int} {top : Int} {g0 : H} (Z0 : LdAt k h g0 cb bw f)
    (K : AX × List V × H → Option (AX × List V × H)) (R : AX × List V × H → Prop)
    (hK : ∀ (n : Nat) (g : H), (n = k.room ∨ n = y.body.length) → n ≤ k.room → Fr [bw] g0 g → LdAt k h g cb bw (bodyI f s y.body n) →
      Ev (K (.exit 2, S.withyref13_Laid_c4_O x1 x2 x3 (.ptr cb 0) (.sl bw 0 k.size (.ex k.size)) (.int .u64 top) (.int .i64 (s : Nat)) (.ptr hb 0), g)) R) :
    Ev ((W.loop (S.withyref13_Laid_c4_B W) (S.withyref13_Laid_c4_E x1 x2 x3 (.ptr cb 0) (.sl bw 0 k.size (.ex k.size)) (.int .u64 top) (.int .i64 (s : Nat)) (.ptr hb 0) (.int .i64 0)) g0).bind K) R := by
  have hbd := Cfg.bounds hr
  refine loop_ev (α := Nat) (fun i => S.withyref13_Laid_c4_E x1 x2 x3 (.ptr cb 0) (.sl bw 0 k.size (.ex k.size)) (.int .u64 top) (.int .i64 (s : Nat)) (.ptr hb 0) (.int .i64 (i : Nat)))
    (fun i g => i ≤ k.room ∧ i ≤ y.body.length ∧ Fr [bw] g0 g ∧ LdAt k h g cb bw (bodyI f s y.body i)) (fun i _ => k.room - i)
    (fun r => ∃ n, r.1 = .exit 2 ∧ r.2.1 = S.withyref13_Laid_c4_O x1 x2 x3 (.ptr cb 0) (.sl bw 0 k.size (.ex k.size)) (.int .u64 top) (.int .i64 (s : Nat)) (.ptr hb 0) ∧ (n = k.room ∨ n = y.body.length) ∧ n ≤ k.room ∧ Fr [bw] g0 r.2.2 ∧ LdAt k h r.2.2 cb bw (bodyI f s y.body n))
    0 rfl ⟨Nat.zero_le _, Nat.zero_le _, .refl Z0.fr.ok, by rw [bodyI_zero]; exact Z0⟩ ?_ ?_
  rotate_left
  · rintro ⟨_, _, g⟩ ⟨n, rfl, rfl, h1, h2, F, Z⟩
    exact hK n g h1 h2 F Z
  rintro i g ⟨hi, hib, F, Z⟩
  rw [S.withyref13_Laid_c4_eq]
  have hv : k.v = .agg [.int .i64 k.s, .int .i64 k.a, .int .i64 k.c, .int .i64 k.hd, .int .i64 k.g, .int .i64 k.st] := rfl
  have hcfg := Z.cfg
  unfold cfgB at hcfg
  have hroom := fun h => refRoom_spec k.s k.a k.c k.hd k.g k.st h
  unfold cfgV at hroom
  rw [room_int hr] at hroom
  have d1 := ld_lt i k.room
  by_cases hik : i < k.room
  rotate_left
  · rw [decide_eq_false hik] at d1
    simp only [S.withyref13_Laid_c4_S, Option.bind_some, ldN_get', ldNB_cells, Nat.zero_add, Nat.reduceAdd, Nat.reduceLeDiff, asI_int, List.length_cons, List.length_nil, decide_true, List.take_succ_cons, List.take_zero, List.drop_zero, W_call, hcfg, hroom, d1]
    exact Ev.some (.inr ⟨by simp, i, rfl, rfl, .inl (Nat.le_antisymm hi (Nat.le_of_not_lt hik)), hi, F, Z⟩)
  rw [decide_eq_true hik] at d1
  obtain ⟨xb, e1, _, e3, _⟩ := (hx.fr ok Z.fr).at Z.fr.ok hy
  have hB := (hx.body y (List.mem_of_getElem? hy)).fr ok Z.fr (by simp)
  have hBl := hB.len
  have d2 := ld_lt i y.body.length
  by_cases hil : i < y.body.length
  rotate_left
  · rw [decide_eq_false hil] at d2
    simp only [S.withyref13_Laid_c4_S, ptrAt_ptr, Option.bind_some, ld1_get', ldN_get', ldNB_cells, Nat.zero_add, Nat.reduceAdd, Nat.reduceLeDiff, asI_int, List.length_cons, List.length_nil, decide_true, List.take_succ_cons, List.take_zero, List.drop_zero, W_call, hcfg, hroom, d1, e1, e3, hBl, d2]
    exact Ev.some (.inr ⟨by simp, i, rfl, rfl, .inr (Nat.le_antisymm hib (Nat.le_of_not_lt hil)), hi, F, Z⟩)
  rw [decide_eq_true hil] at d2
  obtain ⟨v, hvi⟩ : ∃ v, y.body[i]? = some v := ⟨_, List.getElem?_eq_getElem hil⟩
  obtain ⟨vb, f1, f2⟩ := hB.at hvi
  have hbok : (Wd.body s i).ok k := ⟨hs, hik⟩
  have hat := at_wd hr hbok
  rw [hv] at hat
  have hat' : ∀ h, C 108 [.agg [.int .i64 k.s, .int .i64 k.a, .int .i64 k.c, .int .i64 k.hd, .int .i64 k.g, .int .i64 k.st], .agg [.str ⟨⟨[98, 111, 100, 121]⟩⟩, .int .i64 (s : Int), .int .i64 (i : Int)]] h = some (.int .i64 ((Wd.body s i).pos k : Nat), h) := hat
  have hix : indexAV 1 (.sl bw 0 k.size (.ex k.size)) (.int .i64 ((Wd.body s i).pos k : Nat)) = some (.ptr bw ((Wd.body s i).pos k)) := sl_idx1 (pos_lt hbok)
  have hrow := Z.row
  have hle := LdAt.le (f := bodyI f s y.body i) hbok
  have hne0 : decide (Bk.rw = Bk.ro) = false := rfl
  have wi := ld_i (i := i) (Nat.lt_of_lt_of_le hik (Nat.le_trans hbd.2.1.2 (by decide)))
  have hvb : V.beq y.v y.v = true := by
    rcases hB with ⟨h1, _⟩ | ⟨b, c, kk, h1, _⟩
    · rw [h1]; rfl
    · rw [h1]; simp [V.beq]
  have Z1 := Z.set (v := v) hbok rfl
  simp only [ld1_get'] at f2
  generalize hcs : ((k.row (bodyI f s y.body i)).map (V.int .u64)).take ((Wd.body s i).pos k) ++ [.int .u64 v] ++ ((k.row (bodyI f s y.body i)).map (V.int .u64)).drop ((Wd.body s i).pos k + 1) = cs at Z1
  simp only [S.withyref13_Laid_c4_S, ptrAt_ptr, Option.bind_some, Option.map_some, ld1_get', ldN_get', st_get', ldNB_cells, stB_cells, Nat.zero_add, Nat.reduceAdd, Nat.reduceLeDiff, V.one, V.cells, V.beq, ckB_some, asI_int, List.length_cons, List.length_nil, Nat.beq_refl, List.all_cons, List.all_nil, Bool.not_true, Bool.or_self, Bool.and_self, decide_true, decide_false, splice, List.take_succ_cons, List.take_zero, List.drop_zero, reduceCtorEq, W_call, hcfg, hroom, d1, e1, e3, hBl, d2, f1, f2, hat', hvb, hix, hrow, hle, hcs, wi]
  have Z2 := Z1.row_eq (f' := bodyI f s y.body (i + 1)) (by rw [← row_set hbok]; exact bodyI_succ f hs hik hvi)
  exact Ev.some (.inl ⟨i + 1, rfl, rfl, ⟨hik, hil, F.put (.inl (by simp)) (Z.fr.ok.lt Z.row) _, Z2⟩, Nat.sub_lt_sub_left hik (Nat.lt_succ_self i)⟩)

theorem ld_s {s S : Nat} (h : s < S) (h64 : S ≤ 64) : decide ((0 : Int) ≤ (s : Int)) = true ∧ wr .u64 (wr .i64 ((s : Int) + 1)) = (s : Int) + 1 ∧ wr .i64 ((s : Int) - 1) = (s : Int) - 1 := by
  refine ⟨decide_eq_true (by omega), ?_, wr64 (by omega) (by omega)⟩
  rw [wr64 (n := (s : Int) + 1) (by omega) (by omega), wru64 (by omega) (by omega)]
theorem hdL_none {l : List Slt} {s : Nat} (h : l[s]? = none) : hdL l s = Hdr.zero ∧ ∀ i, bodyL l s i = 0 := by
  unfold hdL bodyL; rw [h]; exact ⟨rfl, fun _ => rfl⟩
theorem hdL_wrong {l : List Slt} {s : Nat} {y : Slt} (h : l[s]? = some y) (hr : y.head.right = false) : hdL l s = Hdr.zero ∧ ∀ i, bodyL l s i = 0 := by
  unfold hdL bodyL; rw [h]; simp only [hr]; exact ⟨rfl, fun _ => rfl⟩
theorem hdL_right' {l : List Slt} {s : Nat} {y : Slt} (h : l[s]? = some y) (hr : y.head.right = true) : hdL l s = y.head ∧ ∀ i, bodyL l s i = (y.body[i]?).getD 0 := by
  unfold hdL bodyL; rw [h]; simp only [hr, if_true]; exact ⟨trivial, fun _ => trivial⟩

section
variable {k : Cfg} (hr : k.R = true) {h : H} (ok : h.ok) {x1 x2 x3 : V} {l : List Slt} (hx : RowS h.get x1 l) (hu : ∀ y ∈ l, y.okS)
include hr ok hx hu
/-- A slot is laid. -/
theorem laid_slot {s : Nat} (hs : s < k.S) {cb bw : Nat} {g : H} (Z : LdAt k h g cb bw (laidS k l (s + 1))) :
    Ev (S.withyref13_Laid_c1_S W x1 x2 x3 (.ptr cb 0) (.sl bw 0 k.size (.ex k.size)) (topL k l (s + 1)) (s : Nat) g) fun r => r.1 = .normal ∧ r.2.1 = S.withyref13_Laid_c1_E x1 x2 x3 (.ptr cb 0) (.sl bw 0 k.size (.ex k.size)) (.int .u64 (topL k l s)) (.int .i64 ((s : Int) - 1)) ∧ LdAt k h r.2.2 cb bw (laidS k l s) := by
  have hbd := Cfg.bounds hr
  obtain ⟨d0, ws1, ws2⟩ := ld_s hs hbd.1.2
  have hv : k.v = .agg [.int .i64 k.s, .int .i64 k.a, .int .i64 k.c, .int .i64 k.hd, .int .i64 k.g, .int .i64 k.st] := rfl
  have hhok : (Wd.header s).ok k := hs
  have hlok : (Wd.link s).ok k := hs
  have hat := at_wd hr hhok
  have hal := at_wd hr hlok
  rw [hv] at hat hal
  have hat' : ∀ h, C 108 [.agg [.int .i64 k.s, .int .i64 k.a, .int .i64 k.c, .int .i64 k.hd, .int .i64 k.g, .int .i64 k.st], .agg [.str ⟨⟨[104, 101, 97, 100, 101, 114]⟩⟩, .int .i64 (s : Int), .int .i64 0]] h = some (.int .i64 ((Wd.header s).pos k : Nat), h) := hat
  have hal' : ∀ h, C 108 [.agg [.int .i64 k.s, .int .i64 k.a, .int .i64 k.c, .int .i64 k.hd, .int .i64 k.g, .int .i64 k.st], .agg [.str ⟨⟨[108, 105, 110, 107]⟩⟩, .int .i64 (s : Int), .int .i64 0]] h = some (.int .i64 ((Wd.link s).pos k : Nat), h) := hal
  have hix : indexAV 1 (.sl bw 0 k.size (.ex k.size)) (.int .i64 ((Wd.header s).pos k : Nat)) = some (.ptr bw ((Wd.header s).pos k)) := sl_idx1 (pos_lt hhok)
  have hil : indexAV 1 (.sl bw 0 k.size (.ex k.size)) (.int .i64 ((Wd.link s).pos k : Nat)) = some (.ptr bw ((Wd.link s).pos k)) := sl_idx1 (pos_lt hlok)
  have hne0 : decide (Bk.rw = Bk.ro) = false := rfl
  have ok0 := Z.fr.ok
  have hcl := ok0.lt Z.cfg
  have hbl := ok0.lt Z.row
  have ncn : cb ≠ g.next := Nat.ne_of_lt hcl
  have nbn : bw ≠ g.next := Nat.ne_of_lt hbl
  have ncb := Z.ne
  have htop := topL_at l hs
  have hle1 : ∀ f, decide ((Wd.header s).pos k + 1 ≤ ((k.row f).map (V.int .u64)).length) = true := fun f => LdAt.le hhok
  have hle2 : ∀ f, decide ((Wd.link s).pos k + 1 ≤ ((k.row f).map (V.int .u64)).length) = true := fun f => LdAt.le hlok
  have hsp1 : ∀ f v, ((k.row f).map (V.int .u64)).take ((Wd.header s).pos k) ++ [.int .u64 v] ++ ((k.row f).map (V.int .u64)).drop ((Wd.header s).pos k + 1) = (k.row (wset f (.header s) v)).map (V.int .u64) := fun f v => by
    rw [row_splice (by rw [row_length]; exact pos_lt hhok), row_set hhok]
  have hsp2 : ∀ f v, ((k.row f).map (V.int .u64)).take ((Wd.link s).pos k) ++ [.int .u64 v] ++ ((k.row f).map (V.int .u64)).drop ((Wd.link s).pos k + 1) = (k.row (wset f (.link s) v)).map (V.int .u64) := fun f v => by
    rw [row_splice (by rw [row_length]; exact pos_lt hlok), row_set hlok]
  have hxl := hx.len
  have d1 := ld_lt s l.length
  -- a slot that is nothing
  have nothing : hdL l s = Hdr.zero → (∀ i, bodyL l s i = 0) → k.row (wset (wset (laidS k l (s + 1)) (.header s) Hdr.zero.word) (.link s) (topL k l (s + 1))) = k.row (laidS k l s) ∧ topL k l s = (s : Int) + 1 := fun hz hb => by
    have e := laidS_step (k := k) (l := l) (n := 0) hs (b := []) (fun i _ => by rw [hb i, if_neg (Nat.not_lt_zero i)])
    rw [hz, if_pos (show Hdr.zero.kind = 0 from rfl), bodyI_zero] at e
    refine ⟨e.symm, ?_⟩
    rw [htop, hz, if_pos (show Hdr.zero.kind = 0 from rfl)]
  have Zn : ∀ (b1 b2 : _) (f' : Wd → Int), k.row f' = k.row (laidS k l s) → LdAt k h ((((g.new b1).put g.next b2)).put bw (some (.cells ((k.row f').map (.int .u64)) .rw))) cb bw (laidS k l s) := fun b1 b2 f' e => by
    refine ⟨(((Z.fr.new _).put (.inr Z.fr.le) (Nat.lt_succ_self _) _).put (.inr Z.nbw) (Nat.lt_succ_of_lt hbl) _), ?_, by rw [get_put_self, e], Z.ncb, Z.nbw, Z.ne⟩
    rw [get_put_ne ncb, get_put_ne ncn, get_new_ne ncn]; exact Z.cfg
  have hcfg := Z.cfg
  have hrow := Z.row
  unfold cfgB at hcfg
  have hPz := fun h => refPack_spec (x := Hdr.zero) zero_right h
  simp only [Hdr.cs, Hdr.zero] at hPz
  by_cases hsl : s < l.length
  rotate_left
  · rw [decide_eq_false hsl] at d1
    obtain ⟨hz, hb⟩ := hdL_none (List.getElem?_eq_none (Nat.le_of_not_lt hsl) : l[s]? = none)
    obtain ⟨e, ht⟩ := nothing hz hb
    simp only [Hdr.zero] at e
    simp only [S.withyref13_Laid_c1_S, Option.bind_some, Option.map_some, ld1_get', ldN_get', st_get', get_put', get_new', put_put', ldB_cells, ldNB_cells, stB_cells, List.getElem?_cons_zero, Nat.zero_add, Nat.reduceAdd, Nat.reduceLeDiff, V.one, V.cells, V.beq, V.beqs, ckB_some, asI_int, List.length_cons, List.length_nil, Nat.beq_refl, List.all_cons, List.all_nil, Bool.not_true, Bool.or_self, Bool.and_self, decide_true, decide_false, if_true, if_false, splice, List.take_succ_cons, List.take_zero, List.drop_succ_cons, List.drop_zero, List.cons_append, List.nil_append, reduceCtorEq, W_call, d0, hxl, d1, hcfg, ncn, ncb, nbn, nbn.symm, hat', hPz, hix, hrow, hle1, hsp1, hal', hil, hle2, hsp2, ws1, ws2, BEq.rfl]
    exact Ev.some ⟨rfl, by rw [ht], Zn _ _ _ e⟩
  rw [decide_eq_true hsl] at d1
  obtain ⟨y, hy⟩ : ∃ y, l[s]? = some y := ⟨_, List.getElem?_eq_getElem hsl⟩
  obtain ⟨xb, e1, e2, _, hxbl⟩ := (hx.fr ok Z.fr).at ok0 hy
  have nxn : xb ≠ g.next := Nat.ne_of_lt hxbl
  have hRt := fun h => refRight_spec y.head h
  cases hyr : y.head.right with
  | false =>
    rw [hyr] at hRt
    obtain ⟨hz, hb⟩ := hdL_wrong hy hyr
    obtain ⟨e, ht⟩ := nothing hz hb
    simp only [Hdr.zero] at e
    simp only [S.withyref13_Laid_c1_S, ptrAt_ptr, Option.bind_some, Option.map_some, ld1_get', ldN_get', st_get', get_put', get_new', put_put', ldB_cells, ldNB_cells, stB_cells, List.getElem?_cons_zero, Nat.zero_add, Nat.add_zero, Nat.reduceAdd, Nat.reduceLeDiff, V.one, V.cells, V.beq, V.beqs, ckB_some, asI_int, asB_bool, List.length_cons, List.length_nil, Nat.beq_refl, List.all_cons, List.all_nil, Bool.not_true, Bool.false_or, Bool.or_self, Bool.and_self, decide_true, decide_false, if_true, if_false, splice, List.take_succ_cons, List.take_zero, List.drop_succ_cons, List.drop_zero, List.cons_append, List.nil_append, reduceCtorEq, W_call, d0, hxl, d1, e1, e2, nxn, hRt, hcfg, ncn, ncb, nbn, nbn.symm, hat', hPz, hix, hrow, hle1, hsp1, hal', hil, hle2, hsp2, ws1, ws2, BEq.rfl]
    exact Ev.some ⟨rfl, by rw [ht], Zn _ _ _ e⟩
  | true =>
    rw [hyr] at hRt
    obtain ⟨hz, hb⟩ := hdL_right' hy hyr
    have hPk := fun h => refPack_spec hyr h
    have hkk : y.head.cs = [.int .i64 y.head.kind, .int .i64 y.head.mark, .bool y.head.gray, .int .i64 y.head.arity, .int .i64 y.head.gen, .int .i64 y.head.stamp] := rfl
    rw [hkk] at e2 hRt hPk
    simp only [S.withyref13_Laid_c1_S, ptrAt_ptr, Option.bind_some, Option.map_some, ld1_get', ldN_get', st_get', get_put', get_new', put_put', ldNB_cells, stB_cells, Nat.zero_add, Nat.add_zero, Nat.reduceAdd, Nat.reduceLeDiff, V.one, V.cells, asB_bool, List.length_cons, List.length_nil, Nat.beq_refl, List.all_cons, List.all_nil, Bool.not_true, Bool.or_self, Bool.and_self, decide_true, decide_false, if_true, if_false, splice, List.take_succ_cons, List.take_zero, List.drop_succ_cons, List.drop_zero, List.cons_append, List.nil_append, reduceCtorEq, W_call, d0, hxl, d1, e1, e2, nxn, hRt]
    have F1 : Fr [] g ((g.new (.cells [.int .i64 0, .int .i64 0, .bool false, .int .i64 0, .int .i64 0, .int .i64 0] .rw)).put g.next (some (.cells [.int .i64 y.head.kind, .int .i64 y.head.mark, .bool y.head.gray, .int .i64 y.head.arity, .int .i64 y.head.gen, .int .i64 y.head.stamp] .rw))) := ((Fr.refl ok0).new _).put (.inr (Nat.le_refl _)) (Nat.lt_succ_self _) _
    refine laid_body hr ok hx hu hs hy (Z.fr' F1) _ _ ?_
    intro n g2 hn hnr F2 Z2
    show Ev (S.withyref13_Laid_K7 W (.exit 2) _ g2) _
    rw [S.withyref13_Laid_c4_e2_eq]
    have hown := F2.get F1.ok (get_put_self _ _ _) (by simp [nbn.symm])
    have hcfg2 := Z2.cfg
    have hrow2 := Z2.row
    have ok2 := F2.ok
    have hcl2 := ok2.lt hcfg2
    have hbl2 := ok2.lt hrow2
    unfold cfgB at hcfg2
    have e := laidS_step (k := k) (l := l) (n := n) hs (b := y.body) (fun i hi => by
      rw [hb i]
      by_cases h1 : i < n
      · rw [if_pos h1]
      · rw [if_neg h1]
        rcases hn with h2 | h2
        · exact absurd (h2 ▸ hi) h1
        · rw [List.getElem?_eq_none (by rw [← h2]; exact Nat.le_of_not_lt h1)]; rfl)
    rw [hz] at e htop
    by_cases hk0 : y.head.kind = 0
    · rw [if_pos hk0] at e htop
      have dk : decide (y.head.kind = 0) = true := decide_eq_true hk0
      simp only [S.withyref13_Laid_c4_e2, ptrAt_ptr, Option.bind_some, Option.map_some, ld1_get', ldN_get', st_get', get_put', put_put', ldB_cells, ldNB_cells, stB_cells, List.getElem?_cons_zero, Nat.zero_add, Nat.add_zero, Nat.reduceAdd, Nat.reduceLeDiff, V.one, V.cells, V.beq, V.beqs, ckB_some, asI_int, List.length_cons, List.length_nil, Nat.beq_refl, List.all_cons, List.all_nil, Bool.not_true, Bool.or_self, Bool.and_self, decide_true, decide_false, if_true, if_false, splice, List.take_succ_cons, List.take_zero, List.drop_zero, reduceCtorEq, W_call, hcfg2, hown, nbn.symm, hat', hPk, hix, hrow2, hle1, hsp1, ncb, dk, hal', hil, hle2, hsp2, ws1, ws2, BEq.rfl]
      refine Ev.some ⟨rfl, by rw [htop], ⟨Z2.fr.put (.inr Z.nbw) hbl2 _, by rw [get_put_ne ncb]; exact Z2.cfg, by rw [get_put_self, e], Z.ncb, Z.nbw, Z.ne⟩⟩
    · rw [if_neg hk0] at e htop
      have dk : decide (y.head.kind = 0) = false := decide_eq_false hk0
      simp only [S.withyref13_Laid_c4_e2, ptrAt_ptr, Option.bind_some, Option.map_some, ld1_get', ldN_get', st_get', get_put', ldB_cells, ldNB_cells, stB_cells, List.getElem?_cons_zero, Nat.zero_add, Nat.add_zero, Nat.reduceAdd, Nat.reduceLeDiff, V.one, V.cells, V.beq, V.beqs, ckB_some, asI_int, List.length_cons, List.length_nil, Nat.beq_refl, List.all_cons, List.all_nil, Bool.not_true, Bool.or_self, Bool.and_self, decide_true, decide_false, if_false, splice, List.take_succ_cons, List.take_zero, List.drop_zero, reduceCtorEq, W_call, hcfg2, hown, nbn.symm, hat', hPk, hix, hrow2, hle1, hsp1, dk, ws2, BEq.rfl]
      refine Ev.some ⟨rfl, by rw [htop], ⟨Z2.fr.put (.inr Z.nbw) hbl2 _, by rw [get_put_ne ncb]; exact Z2.cfg, by rw [get_put_self, e], Z.ncb, Z.nbw, Z.ne⟩⟩
end

/-! ### Roots, views, grays -/
def rootW (k : Cfg) (j : Nat) : Wd := if j / k.C < k.H then .entry (j % k.C) (j / k.C) else .start (j % k.C)
def rootsF (k : Cfg) (f : Wd → Int) (roots : List Int) : Nat → Wd → Int
  | 0 => f
  | n + 1 => wset (rootsF k f roots n) (rootW k n) ((roots[n]?).getD 0 % 20)
def viewsF (f : Wd → Int) (views : List Int) : Nat → Wd → Int
  | 0 => f
  | n + 1 => wset (viewsF f views n) (.view n) ((views[n]?).getD 0)
def laidT (k : Cfg) (l : List Slt) : Wd → Int := wset (laidS k l 0) .top (topL k l 0)
def laidV (k : Cfg) (l : List Slt) (roots views : List Int) : Wd → Int := viewsF (rootsF k (laidT k l) roots (min roots.length (k.C * (k.H + 1)))) views (min views.length k.C)
/-- The words of a heap that is laid. -/
def laidW (k : Cfg) (l : List Slt) (roots views : List Int) : Wd → Int := wset (laidV k l roots views) .grays (graysN k (laidV k l roots views) : Nat)

theorem laidS_U64 {k : Cfg} (hr : k.R = true) {l : List Slt} (hu : ∀ y ∈ l, y.okS) (j : Nat) (w : Wd) : U64 (laidS k l j w) := by
  have z : U64 0 := ⟨by decide, by decide⟩
  have hS := (Cfg.bounds hr).1
  cases w with
  | header q =>
    simp only [laidS]; split
    · exact word_U64 (hdL_right l q)
    · exact z
  | body q i =>
    simp only [laidS]; split
    · exact bodyL_U64 hu q i
    · exact z
  | link q =>
    simp only [laidS]; split
    · unfold topL
      have := topG_bd l (k.S - (q + 1)) (q + 1)
      by_cases h : q + 1 ≤ k.S
      · exact ⟨this.1, by omega⟩
      · rw [show k.S - (q + 1) = 0 by omega]; exact z
    · exact mem0_U64 hr (.link q)
  | clock => exact mem0_U64 hr .clock
  | epoch => exact mem0_U64 hr .epoch
  | grays => exact mem0_U64 hr .grays
  | top => exact mem0_U64 hr .top
  | pin q => exact mem0_U64 hr (.pin q)
  | entry q i => exact mem0_U64 hr (.entry q i)
  | view q => exact mem0_U64 hr (.view q)
  | start q => exact mem0_U64 hr (.start q)
theorem wset_U64 {f : Wd → Int} {w0 : Wd} {v : Int} (h : ∀ w, U64 (f w)) (hv : U64 v) (w : Wd) : U64 (wset f w0 v w) := by
  unfold wset; split
  · exact hv
  · exact h w
theorem rootsF_U64 {k : Cfg} {f : Wd → Int} {roots : List Int} (h : ∀ w, U64 (f w)) : ∀ n w, U64 (rootsF k f roots n w)
  | 0, w => h w
  | n + 1, w => wset_U64 (rootsF_U64 h n) ⟨by omega, by omega⟩ w
theorem viewsF_U64 {f : Wd → Int} {views : List Int} (h : ∀ w, U64 (f w)) (hv : ∀ v ∈ views, U64 v) : ∀ n w, U64 (viewsF f views n w)
  | 0, w => h w
  | n + 1, w => wset_U64 (viewsF_U64 h hv n) (by
      cases hn : views[n]? with
      | none => exact ⟨by decide, by decide⟩
      | some v => exact hv v (List.mem_of_getElem? hn)) w
theorem laidV_U64 {k : Cfg} (hr : k.R = true) {l : List Slt} (hu : ∀ y ∈ l, y.okS) {roots views : List Int} (hv : ∀ v ∈ views, U64 v) (w : Wd) : U64 (laidV k l roots views w) := by
  unfold laidV
  refine viewsF_U64 (rootsF_U64 (fun w => ?_) _) hv _ w
  have hb := topL_bd k l (Nat.zero_le k.S)
  have hS := (Cfg.bounds hr).1
  exact wset_U64 (laidS_U64 hr hu 0) ⟨hb.1, by omega⟩ w
theorem laidW_U64 {k : Cfg} (hr : k.R = true) {l : List Slt} (hu : ∀ y ∈ l, y.okS) {roots views : List Int} (hv : ∀ v ∈ views, U64 v) (w : Wd) : U64 (laidW k l roots views w) := by
  unfold laidW
  have hS := (Cfg.bounds hr).1
  have := graysN_le k (laidV k l roots views)
  exact wset_U64 (laidV_U64 hr hu hv) ⟨by omega, by omega⟩ w

theorem LdAt.rows {k : Cfg} {h g : H} {cb bw : Nat} {f : Wd → Int} (Z : LdAt k h g cb bw f) {l : Wd} (hl : l.ok k) (v : Int) :
    g.st 1 (.ptr bw (l.pos k)) (.int .u64 v) = some (g.put bw (some (.cells ((k.row (wset f l v)).map (.int .u64)) .rw))) ∧ LdAt k h (g.put bw (some (.cells ((k.row (wset f l v)).map (.int .u64)) .rw))) cb bw (wset f l v) := by
  have hsp : ((k.row f).map (V.int .u64)).take (l.pos k) ++ [.int .u64 v] ++ ((k.row f).map (V.int .u64)).drop (l.pos k + 1) = (k.row (wset f l v)).map (V.int .u64) := by
    rw [row_splice (by rw [row_length]; exact pos_lt hl), row_set hl]
  have h1 := row_st2 (g := g) (b := bw) (ws := k.row f) (kk := .rw) (by decide) Z.row (i := l.pos k) (by rw [row_length]; exact pos_lt hl) v
  refine ⟨?_, Z.set hl hsp.symm⟩
  rw [h1, row_set hl]

theorem ld_j {j C : Nat} (hC : 1 ≤ C) (h8 : C ≤ 8) (hj : j < 1000) : arith .rem .i64 (j : Int) (C : Int) = some ((j % C : Nat) : Int) ∧ arith .quo .i64 (j : Int) (C : Int) = some ((j / C : Nat) : Int) := by
  have h0 : decide ((C : Int) = 0) = false := decide_eq_false (by omega)
  have e1 : Int.tmod (j : Int) (C : Int) = ((j % C : Nat) : Int) := by rw [Int.tmod_eq_emod_of_nonneg (by omega)]; rfl
  have e2 : Int.tdiv (j : Int) (C : Int) = ((j / C : Nat) : Int) := by rw [Int.tdiv_eq_ediv_of_nonneg (by omega)]; rfl
  have l1 := Nat.mod_lt j hC
  have l2 := Nat.div_le_self j C
  refine ⟨by simp only [arith, h0, e1], ?_⟩
  simp only [arith, h0, e2]
  generalize j / C = d at l2 ⊢
  rw [wr64 (by omega) (by omega)]
theorem ld_mul {C H : Nat} (hC : C ≤ 8) (hH : H ≤ 16) : wr .i64 ((C : Int) * (wr .i64 ((H : Int) + 1))) = ((C * (H + 1) : Nat) : Int) := by
  have h1 : C * (H + 1) ≤ 8 * 17 := Nat.mul_le_mul hC (by omega)
  rw [wr64 (n := (H : Int) + 1) (by omega) (by omega)]
  have h2 : (C : Int) * ((H : Int) + 1) = ((C * (H + 1) : Nat) : Int) := by rw [Int.natCast_mul]; rfl
  rw [h2, wr64 (by omega) (by omega)]

theorem LdAt.stB {k : Cfg} {h g : H} {cb bw : Nat} {f : Wd → Int} (Z : LdAt k h g cb bw f) {l : Wd} (hl : l.ok k) (v : Int) :
    stB (g.get bw) (l.pos k) [.int .u64 v] = some (.cells ((k.row (wset f l v)).map (.int .u64)) .rw) := by
  have hne0 : decide (Bk.rw = Bk.ro) = false := rfl
  have hsp : ((k.row f).map (V.int .u64)).take (l.pos k) ++ [.int .u64 v] ++ ((k.row f).map (V.int .u64)).drop (l.pos k + 1) = (k.row (wset f l v)).map (V.int .u64) := by
    rw [row_splice (by rw [row_length]; exact pos_lt hl), row_set hl]
  have hle := LdAt.le (f := f) hl
  have hone : [V.int .u64 v].all V.one = true := rfl
  have hlen : [V.int .u64 v].length = 1 := rfl
  rw [Z.row, stB_cells, hlen, hle, hone, hne0]
  show some (Blk.cells (splice _ _ _) _) = _
  unfold splice
  rw [hlen, hsp]
theorem LdAt.ix {k : Cfg} {bw : Nat} {l : Wd} (hl : l.ok k) : indexAV 1 (.sl bw 0 k.size (.ex k.size)) (.int .i64 (l.pos k : Nat)) = some (.ptr bw (l.pos k)) := sl_idx1 (pos_lt hl)
theorem LdAt.put {k : Cfg} {h g : H} {cb bw : Nat} {f : Wd → Int} (Z : LdAt k h g cb bw f) {l : Wd} (hl : l.ok k) (v : Int) :
    LdAt k h (g.put bw (some (.cells ((k.row (wset f l v)).map (.int .u64)) .rw))) cb bw (wset f l v) := (Z.rows hl v).2

/-- One root. -/
theorem laid_root {k : Cfg} (hr : k.R = true) (hH : k.hd = (k.H : Int)) {h : H} {x2 x3 : V} {cb bw : Nat} {f : Wd → Int} {g : H} (Z : LdAt k h g cb bw f) {i n v : Int} {p q L : Nat} (hl : lenSl x2 = some L)
    (d1 : decide (i < (L : Int)) = true) (hm : wr .i64 (k.c * (wr .i64 (k.hd + 1))) = n) (d2 : decide (i < n) = true) (ar : arith .rem .i64 i k.c = some (p : Int)) (aq : arith .quo .i64 i k.c = some (q : Int))
    (hpC : p < k.C) {vb vo : Nat} (f1 : indexAV 1 x2 (.int .i64 i) = some (.ptr vb vo)) (f2 : ldB (g.get vb) vo = some (.int .u64 v)) (hv0 : 0 ≤ v) {i' : Int} (wi : wr .i64 (i + 1) = i') :
    Ev (S.withyref13_Laid_c6_S W x2 x3 (.ptr cb 0) (.sl bw 0 k.size (.ex k.size)) i g) fun r => r.1 = .normal ∧ r.2.1 = S.withyref13_Laid_c6_E x2 x3 (.ptr cb 0) (.sl bw 0 k.size (.ex k.size)) (.int .i64 i') ∧ LdAt k h r.2.2 cb bw (wset f (if q < k.H then .entry p q else .start p) (v % 20)) := by
  have hcfg := Z.cfg
  unfold cfgB at hcfg
  have hv : k.v = .agg [.int .i64 k.s, .int .i64 k.a, .int .i64 k.c, .int .i64 k.hd, .int .i64 k.g, .int .i64 k.st] := rfl
  have htm : Int.tmod v 20 = v % 20 := tm hv0
  by_cases hq : q < k.H
  · have d3 : decide ((q : Int) < k.hd) = true := by rw [hH]; exact decide_eq_true (Int.ofNat_lt.mpr hq)
    have hwok : (Wd.entry p q).ok k := ⟨hpC, hq⟩
    have hat := at_wd hr hwok
    rw [hv] at hat
    have hat' : ∀ h, C 108 [.agg [.int .i64 k.s, .int .i64 k.a, .int .i64 k.c, .int .i64 k.hd, .int .i64 k.g, .int .i64 k.st], .agg [.str ⟨⟨[101, 110, 116, 114, 121]⟩⟩, .int .i64 (p : Int), .int .i64 (q : Int)]] h = some (.int .i64 ((Wd.entry p q).pos k : Nat), h) := hat
    have hix := LdAt.ix (bw := bw) hwok
    have hst := Z.stB hwok (v % 20)
    rw [if_pos hq]
    have Z1 := Z.put hwok (v % 20)
    simp only [S.withyref13_Laid_c6_S, ptrAt_ptr, Option.bind_some, Option.map_some, ld1_get', ldN_get', st_get', ldB_cells, ldNB_cells, List.getElem?_cons_zero, List.getElem?_cons_succ, Nat.zero_add, Nat.reduceAdd, Nat.reduceLeDiff, V.one, V.cells, V.beq, ckB_some, asI_int, List.length_cons, List.length_nil, Nat.beq_refl, Bool.and_self, decide_true, List.take_succ_cons, List.take_zero, List.drop_zero, W_call, hl, d1, hcfg, hm, d2, ar, aq, d3, f1, f2, hat', hix, hst, htm, wi]
    exact Ev.some ⟨rfl, rfl, Z1⟩
  · have d3 : decide ((q : Int) < k.hd) = false := by rw [hH]; exact decide_eq_false (fun h => hq (Int.ofNat_lt.mp h))
    have hwok : (Wd.start p).ok k := hpC
    have hat := at_wd hr hwok
    rw [hv] at hat
    have hat' : ∀ h, C 108 [.agg [.int .i64 k.s, .int .i64 k.a, .int .i64 k.c, .int .i64 k.hd, .int .i64 k.g, .int .i64 k.st], .agg [.str ⟨⟨[115, 116, 97, 114, 116]⟩⟩, .int .i64 (p : Int), .int .i64 0]] h = some (.int .i64 ((Wd.start p).pos k : Nat), h) := hat
    have hix := LdAt.ix (bw := bw) hwok
    have hst := Z.stB hwok (v % 20)
    rw [if_neg hq]
    have Z1 := Z.put hwok (v % 20)
    simp only [S.withyref13_Laid_c6_S, ptrAt_ptr, Option.bind_some, Option.map_some, ld1_get', ldN_get', st_get', ldB_cells, ldNB_cells, List.getElem?_cons_zero, List.getElem?_cons_succ, Nat.zero_add, Nat.reduceAdd, Nat.reduceLeDiff, V.one, V.cells, V.beq, ckB_some, asI_int, List.length_cons, List.length_nil, Nat.beq_refl, Bool.and_self, decide_true, List.take_succ_cons, List.take_zero, List.drop_zero, W_call, hl, d1, hcfg, hm, d2, ar, aq, d3, f1, f2, hat', hix, hst, htm, wi]
    exact Ev.some ⟨rfl, rfl, Z1⟩

theorem laid_root_end {k : Cfg} {h : H} {x2 x3 : V} {cb bw : Nat} {f : Wd → Int} {g : H} (Z : LdAt k h g cb bw f) {i n : Int} {L : Nat} (hl : lenSl x2 = some L) (hm : wr .i64 (k.c * (wr .i64 (k.hd + 1))) = n)
    (d : decide (i < (L : Int)) = false ∨ (decide (i < (L : Int)) = true ∧ decide (i < n) = false)) :
    S.withyref13_Laid_c6_S W x2 x3 (.ptr cb 0) (.sl bw 0 k.size (.ex k.size)) i g = some (.exit 4, S.withyref13_Laid_c6_O x3 (.ptr cb 0) (.sl bw 0 k.size (.ex k.size)), g) := by
  have hcfg := Z.cfg
  unfold cfgB at hcfg
  rcases d with d1 | ⟨d1, d2⟩
  · simp only [S.withyref13_Laid_c6_S, Option.bind_some, hl, d1]
  · simp only [S.withyref13_Laid_c6_S, ptrAt_ptr, Option.bind_some, ld1_get', ldN_get', ldB_cells, ldNB_cells, List.getElem?_cons_zero, List.getElem?_cons_succ, Nat.zero_add, Nat.reduceAdd, Nat.reduceLeDiff, V.one, asI_int, List.length_cons, List.length_nil, decide_true, List.take_succ_cons, List.take_zero, List.drop_zero, W_call, hl, d1, hcfg, hm, d2]

section
variable {k : Cfg} (hr : k.R = true) {h : H} (ok : h.ok) {x2 x3 : V} {roots views : List Int}
include hr ok
/-- The roots are laid. -/
theorem laid_roots (hx2 : RowN .u64 h.get x2 roots) (hu : ∀ w ∈ roots, U64 w) {cb bw : Nat} {f : Wd → Int} {g0 : H} (Z0 : LdAt k h g0 cb bw f)
    (K : AX × List V × H → Option (V × H)) (R : V × H → Prop)
    (hK : ∀ g : H, LdAt k h g cb bw (rootsF k f roots (min roots.length (k.C * (k.H + 1)))) → Ev (K (.exit 4, S.withyref13_Laid_c6_O x3 (.ptr cb 0) (.sl bw 0 k.size (.ex k.size)), g)) R) :
    Ev ((W.loop (S.withyref13_Laid_c6_B W) (S.withyref13_Laid_c6_E x2 x3 (.ptr cb 0) (.sl bw 0 k.size (.ex k.size)) (.int .i64 0)) g0).bind K) R := by
  have hbd := Cfg.bounds hr
  have hR := Cfg.R_iff.mp hr
  have hc : k.c = (k.C : Int) := by unfold Cfg.C; omega
  have hh : k.hd = (k.H : Int) := by unfold Cfg.H; omega
  have hmul : wr .i64 (k.c * (wr .i64 (k.hd + 1))) = ((k.C * (k.H + 1) : Nat) : Int) := by rw [hc, hh]; exact ld_mul hbd.2.2.1.2 hbd.2.2.2.1.2
  have hmx : k.C * (k.H + 1) ≤ 8 * 17 := Nat.mul_le_mul hbd.2.2.1.2 (Nat.succ_le_succ hbd.2.2.2.1.2)
  generalize hN : k.C * (k.H + 1) = N at hmul hmx hK
  refine loop_ev (α := Nat) (fun i => S.withyref13_Laid_c6_E x2 x3 (.ptr cb 0) (.sl bw 0 k.size (.ex k.size)) (.int .i64 (i : Nat)))
    (fun i g => i ≤ roots.length ∧ i ≤ N ∧ LdAt k h g cb bw (rootsF k f roots i)) (fun i _ => roots.length - i)
    (fun r => r.1 = .exit 4 ∧ r.2.1 = S.withyref13_Laid_c6_O x3 (.ptr cb 0) (.sl bw 0 k.size (.ex k.size)) ∧ LdAt k h r.2.2 cb bw (rootsF k f roots (min roots.length N)))
    0 rfl ⟨Nat.zero_le _, Nat.zero_le _, Z0⟩ ?_ ?_
  rotate_left
  · rintro ⟨_, _, g⟩ ⟨rfl, rfl, Z⟩
    exact hK g Z
  rintro i g ⟨hi, him, Z⟩
  rw [S.withyref13_Laid_c6_eq]
  have hl := (hx2.fr ok Z.fr (by simp) : RowN .u64 g.get x2 roots).len
  have d1 := ld_lt i roots.length
  by_cases hil : i < roots.length
  rotate_left
  · rw [decide_eq_false hil] at d1
    rw [laid_root_end Z hl hmul (.inl d1)]
    have e : min roots.length N = i := by clear d1 hmul; omega
    exact Ev.some (.inr ⟨by simp, rfl, rfl, by rw [e]; exact Z⟩)
  rw [decide_eq_true hil] at d1
  have d2 := ld_lt i N
  by_cases himl : i < N
  rotate_left
  · rw [decide_eq_false himl] at d2
    rw [laid_root_end Z hl hmul (.inr ⟨d1, d2⟩)]
    have e : min roots.length N = i := by clear d1 d2 hmul; omega
    exact Ev.some (.inr ⟨by simp, rfl, rfl, by rw [e]; exact Z⟩)
  rw [decide_eq_true himl] at d2
  have hi1000 : i < 1000 := Nat.lt_of_lt_of_le himl (Nat.le_trans hmx (by decide))
  obtain ⟨ar, aq⟩ := ld_j hbd.2.2.1.1 hbd.2.2.1.2 hi1000
  rw [← hc] at ar aq
  obtain ⟨v, hvi⟩ : ∃ v, roots[i]? = some v := ⟨_, List.getElem?_eq_getElem hil⟩
  have hvu := hu v (List.mem_of_getElem? hvi)
  obtain ⟨vb, f1, f2⟩ := (hx2.fr ok Z.fr (by simp)).at hvi
  have wi := ld_i hi1000
  simp only [ld1_get'] at f2
  refine (laid_root hr hh Z hl d1 hmul d2 ar aq (Nat.mod_lt i hbd.2.2.1.1) f1 f2 hvu.1 wi).mono ?_
  rintro ⟨_, _, g'⟩ ⟨rfl, rfl, Z1⟩
  refine .inl ⟨i + 1, rfl, rfl, ⟨hil, himl, ?_⟩, Nat.sub_lt_sub_left hil (Nat.lt_succ_self i)⟩
  have e : rootsF k f roots (i + 1) = wset (rootsF k f roots i) (if i / k.C < k.H then .entry (i % k.C) (i / k.C) else .start (i % k.C)) (v % 20) := by
    show wset _ (rootW k i) ((roots[i]?).getD 0 % 20) = _
    rw [hvi]; rfl
  rw [e]; exact Z1

/-- The views are laid. -/
theorem laid_views (hx3 : RowN .u64 h.get x3 views) {cb bw : Nat} {f : Wd → Int} {g0 : H} (Z0 : LdAt k h g0 cb bw f)
    (K : AX × List V × H → Option (V × H)) (R : V × H → Prop)
    (hK : ∀ g : H, LdAt k h g cb bw (viewsF f views (min views.length k.C)) → Ev (K (.exit 6, S.withyref13_Laid_c8_O (.ptr cb 0) (.sl bw 0 k.size (.ex k.size)), g)) R) :
    Ev ((W.loop (S.withyref13_Laid_c8_B W) (S.withyref13_Laid_c8_E x3 (.ptr cb 0) (.sl bw 0 k.size (.ex k.size)) (.int .i64 0)) g0).bind K) R := by
  have hbd := Cfg.bounds hr
  have hR := Cfg.R_iff.mp hr
  have hc : k.c = (k.C : Int) := by unfold Cfg.C; omega
  have hv : k.v = .agg [.int .i64 k.s, .int .i64 k.a, .int .i64 k.c, .int .i64 k.hd, .int .i64 k.g, .int .i64 k.st] := rfl
  refine loop_ev (α := Nat) (fun i => S.withyref13_Laid_c8_E x3 (.ptr cb 0) (.sl bw 0 k.size (.ex k.size)) (.int .i64 (i : Nat)))
    (fun i g => i ≤ views.length ∧ i ≤ k.C ∧ LdAt k h g cb bw (viewsF f views i)) (fun i _ => views.length - i)
    (fun r => r.1 = .exit 6 ∧ r.2.1 = S.withyref13_Laid_c8_O (.ptr cb 0) (.sl bw 0 k.size (.ex k.size)) ∧ LdAt k h r.2.2 cb bw (viewsF f views (min views.length k.C)))
    0 rfl ⟨Nat.zero_le _, Nat.zero_le _, Z0⟩ ?_ ?_
  rotate_left
  · rintro ⟨_, _, g⟩ ⟨rfl, rfl, Z⟩
    exact hK g Z
  rintro i g ⟨hi, him, Z⟩
  rw [S.withyref13_Laid_c8_eq]
  have hl := (hx3.fr ok Z.fr (by simp) : RowN .u64 g.get x3 views).len
  have hcfg := Z.cfg
  unfold cfgB at hcfg
  have d1 := ld_lt i views.length
  by_cases hil : i < views.length
  rotate_left
  · rw [decide_eq_false hil] at d1
    have e : min views.length k.C = i := by clear d1; omega
    simp only [S.withyref13_Laid_c8_S, Option.bind_some, hl, d1]
    exact Ev.some (.inr ⟨by simp, rfl, rfl, by rw [e]; exact Z⟩)
  rw [decide_eq_true hil] at d1
  have d2 : decide ((i : Int) < k.c) = decide (i < k.C) := by rw [hc]; exact ld_lt i k.C
  by_cases himl : i < k.C
  rotate_left
  · rw [decide_eq_false himl] at d2
    have e : min views.length k.C = i := by clear d1 d2; omega
    simp only [S.withyref13_Laid_c8_S, ptrAt_ptr, Option.bind_some, ld1_get', ldN_get', ldB_cells, ldNB_cells, List.getElem?_cons_zero, List.getElem?_cons_succ, Nat.zero_add, Nat.reduceAdd, Nat.reduceLeDiff, V.one, asI_int, List.length_cons, List.length_nil, decide_true, List.take_succ_cons, List.take_zero, List.drop_zero, W_call, hl, d1, hcfg, d2]
    exact Ev.some (.inr ⟨by simp, rfl, rfl, by rw [e]; exact Z⟩)
  rw [decide_eq_true himl] at d2
  have hi1000 : i < 1000 := Nat.lt_of_lt_of_le himl (Nat.le_trans hbd.2.2.1.2 (by decide))
  obtain ⟨v, hvi⟩ : ∃ v, views[i]? = some v := ⟨_, List.getElem?_eq_getElem hil⟩
  obtain ⟨vb, f1, f2⟩ := (hx3.fr ok Z.fr (by simp)).at hvi
  have wi := ld_i hi1000
  simp only [ld1_get'] at f2
  have hwok : (Wd.view i).ok k := himl
  have hat := at_wd hr hwok
  rw [hv] at hat
  have hat' : ∀ h, C 108 [.agg [.int .i64 k.s, .int .i64 k.a, .int .i64 k.c, .int .i64 k.hd, .int .i64 k.g, .int .i64 k.st], .agg [.str ⟨⟨[118, 105, 101, 119]⟩⟩, .int .i64 (i : Int), .int .i64 0]] h = some (.int .i64 ((Wd.view i).pos k : Nat), h) := hat
  have hix := LdAt.ix (bw := bw) hwok
  have hst := Z.stB hwok v
  have Z1 := Z.put hwok v
  simp only [S.withyref13_Laid_c8_S, ptrAt_ptr, Option.bind_some, Option.map_some, ld1_get', ldN_get', st_get', ldB_cells, ldNB_cells, List.getElem?_cons_zero, List.getElem?_cons_succ, Nat.zero_add, Nat.reduceAdd, Nat.reduceLeDiff, V.one, V.cells, V.beq, ckB_some, asI_int, List.length_cons, List.length_nil, Nat.beq_refl, Bool.and_self, decide_true, List.take_succ_cons, List.take_zero, List.drop_zero, W_call, hl, d1, hcfg, d2, f1, f2, hat', hix, hst, wi]
  refine Ev.some (.inl ⟨i + 1, rfl, rfl, ⟨hil, himl, ?_⟩, Nat.sub_lt_sub_left hil (Nat.lt_succ_self i)⟩)
  have e : viewsF f views (i + 1) = wset (viewsF f views i) (.view i) v := by
    show wset _ _ ((views[i]?).getD 0) = _
    rw [hvi]; rfl
  rw [e]; exact Z1
end

/-- A heap is laid. -/
theorem laid_spec {k : Cfg} (hr : k.R = true) {h : H} (ok : h.ok) {x1 x2 x3 : V} {l : List Slt} {roots views : List Int} (hx : RowS h.get x1 l) (hu : ∀ y ∈ l, y.okS) (hx2 : RowN .u64 h.get x2 roots) (hu2 : ∀ w ∈ roots, U64 w) (hx3 : RowN .u64 h.get x3 views) (hu3 : ∀ w ∈ views, U64 w) :
    Ev (C 121 [k.v, x1, x2, x3] h) fun r => ∃ b, r.1 = .sl b 0 k.size (.ex k.size) ∧ Fr [] h r.2 ∧ h.next ≤ b ∧ r.2.get b = some (.cells ((k.row (laidW k l roots views)).map (.int .u64)) .rw) := by
  have hbd := Cfg.bounds hr
  refine call_ev (af := F.withyref13_Laid) (by kernel_rfl) rfl ?_
  obtain ⟨g0, bw, e0, f0, n0, n1, w0⟩ := Memory_spec hr (ok.new (.cells k.cs .rw))
  have hv : k.v = .agg [.int .i64 k.s, .int .i64 k.a, .int .i64 k.c, .int .i64 k.hd, .int .i64 k.g, .int .i64 k.st] := rfl
  have hcs : (Blk.cells k.cs .rw) = .cells [.int .i64 k.s, .int .i64 k.a, .int .i64 k.c, .int .i64 k.hd, .int .i64 k.g, .int .i64 k.st] .rw := rfl
  rw [hv, S.withyref13_Laid_eq]
  rw [hv, hcs] at e0
  rw [hcs] at f0
  have hfr0 : Fr [] h g0 := ((Fr.refl ok).new _).trans' f0
  have hcfg : g0.get h.next = some (cfgB k) := f0.get (ok.new _) (get_new_self _ _) (by simp)
  rw [H.next_new] at n0
  have Z0 : LdAt k h g0 h.next bw (laidS k l k.S) := ⟨hfr0, hcfg, by rw [laidS_top]; exact w0, Nat.le_refl _, by omega, by omega⟩
  have hks : k.s = (k.S : Int) := by have := Cfg.R_iff.mp hr; unfold Cfg.S; omega
  have ws : wr .i64 (k.s - 1) = (k.S : Int) - 1 := by rw [hks]; exact wr64 (by omega) (by omega)
  have hcfg' := hcfg
  unfold cfgB at hcfg'
  simp only [S.withyref13_Laid, Option.bind_some, ld1_get', ldN_get', get_new', ldB_cells, ldNB_cells, List.getElem?_cons_zero, Nat.zero_add, Nat.reduceAdd, Nat.reduceLeDiff, V.one, asI_int, List.length_cons, List.length_nil, decide_true, if_true, List.take_succ_cons, List.take_zero, List.drop_zero, W_call, e0, hcfg', ws]
  rw [← topL_S k l]
  refine loop_ev (α := Nat) (fun j => S.withyref13_Laid_c1_E x1 x2 x3 (.ptr h.next 0) (.sl bw 0 k.size (.ex k.size)) (.int .u64 (topL k l j)) (.int .i64 ((j : Int) - 1)))
    (fun j g => j ≤ k.S ∧ LdAt k h g h.next bw (laidS k l j)) (fun j _ => j)
    (fun r => r.1 = .exit 0 ∧ r.2.1 = S.withyref13_Laid_c1_O x2 x3 (.ptr h.next 0) (.sl bw 0 k.size (.ex k.size)) (.int .u64 (topL k l 0)) ∧ LdAt k h r.2.2 h.next bw (laidS k l 0))
    k.S rfl ⟨Nat.le_refl _, Z0⟩ ?_ ?_
  · rintro j g ⟨hj, Z⟩
    rw [S.withyref13_Laid_c1_eq]
    cases j with
    | zero =>
      have d : decide ((0 : Int) ≤ ((0 : Nat) : Int) - 1) = false := rfl
      simp only [S.withyref13_Laid_c1_S, d]
      exact Ev.some (.inr ⟨by simp, rfl, rfl, Z⟩)
    | succ s =>
      have e : ((s + 1 : Nat) : Int) - 1 = (s : Int) := by clear ws; omega
      rw [e]
      refine (laid_slot hr ok hx hu hj Z).mono ?_
      rintro ⟨_, _, g'⟩ ⟨rfl, rfl, Z1⟩
      exact .inl ⟨s, rfl, rfl, ⟨Nat.le_of_lt hj, Z1⟩, Nat.lt_succ_self s⟩
  rintro ⟨_, _, g⟩ ⟨rfl, rfl, Z⟩
  dsimp only at Z ⊢
  rw [S.withyref13_Laid_c1_e0_eq]
  have htok : (Wd.top).ok k := trivial
  have i3 : indexAV 1 (.sl bw 0 k.size (.ex k.size)) (.int .i64 3) = some (.ptr bw 3) := LdAt.ix (l := .top) trivial
  have hst : stB (g.get bw) 3 [.int .u64 (topL k l 0)] = _ := Z.stB (l := .top) htok (topL k l 0)
  simp only [S.withyref13_Laid_c1_e0, Option.bind_some, Option.map_some, st_get', Nat.zero_add, V.cells, List.length_cons, List.length_nil, Nat.beq_refl, i3, hst]
  refine laid_roots hr ok hx2 hu2 (Z.put (l := .top) htok (topL k l 0)) _ _ ?_
  intro g2 Z2
  show Ev (S.withyref13_Laid_K9 W (.exit 4) _ g2) _
  rw [S.withyref13_Laid_c6_e4_eq]
  simp only [S.withyref13_Laid_c6_e4]
  refine laid_views hr ok hx3 Z2 _ _ ?_
  intro g3 Z3
  show Ev (S.withyref13_Laid_K11 W (.exit 6) _ g3) _
  rw [S.withyref13_Laid_c8_e6_eq]
  have Z3 : LdAt k h g3 h.next bw (laidV k l roots views) := Z3
  have hU := fun w => laidV_U64 hr hu (roots := roots) hu3 w
  obtain ⟨⟨v1, g4⟩, e4, rfl, f4⟩ := refGrays13_spec hr Z3.fr.ok (c := .ex k.size) (⟨⟨_, Z3.row⟩, fun w _ => hU w⟩ : WordsAt k g3 bw (laidV k l roots views))
  rw [hv] at e4
  have Z4 := Z3.fr' f4
  have hcfg3 := Z3.cfg
  unfold cfgB at hcfg3
  have i2 : indexAV 1 (.sl bw 0 k.size (.ex k.size)) (.int .i64 2) = some (.ptr bw 2) := LdAt.ix (l := .grays) trivial
  have hgl := graysN_le k (laidV k l roots views)
  have hw : wr .u64 ((graysN k (laidV k l roots views) : Nat) : Int) = (graysN k (laidV k l roots views) : Nat) := wru64 (by omega) (by omega)
  have hst4 : stB (g4.get bw) 2 [.int .u64 ((graysN k (laidV k l roots views) : Nat) : Int)] = _ := Z4.stB (l := .grays) trivial _
  have Z5 := Z4.put (l := .grays) trivial ((graysN k (laidV k l roots views) : Nat) : Int)
  simp only [S.withyref13_Laid_c8_e6, Option.bind_some, Option.map_some, ldN_get', st_get', ldNB_cells, Nat.zero_add, Nat.reduceAdd, Nat.reduceLeDiff, V.cells, asIAny, List.length_cons, List.length_nil, Nat.beq_refl, decide_true, List.take_succ_cons, List.take_zero, List.drop_zero, W_call, hcfg3, e4, asIAny, hw, i2, hst4]
  exact Ev.some ⟨bw, rfl, Z5.fr, Z5.nbw, Z5.row⟩
end Wm
end

section
/- The document's example of a layer, run by the kernel. -/
namespace Wm
set_option maxRecDepth 100000 in
theorem awake14_run : runF prog meth 2000 200 192 [] .empty = some (.bool true, .empty) := by kernel_rfl
theorem awake14 (h : H) : C 192 [] h = some (.bool true, h) := call_closed_run (af := F.withylaw14_awake) (by kernel_rfl) rfl (by rw [← runF_eq]; exact awake14_run) h
end Wm
end

section
/- The law SweepSweeps, of my machine. -/
namespace Wm
attribute [local congr] bind_congr1
attribute [local irreducible] wr

def isHead : Wd → Bool
  | .header _ => true
  | _ => false
theorem header_name (l : Wd) : (l.name.toList == (⟨⟨[104, 101, 97, 100, 101, 114]⟩⟩ : ByteArray).toList) = isHead l := by
  have h := name_eq l (.header 0)
  have e : (Wd.header 0).name = (⟨⟨[104, 101, 97, 100, 101, 114]⟩⟩ : ByteArray) := rfl
  rw [e] at h
  rw [h]
  cases l <;> rfl
def isWh (f : Wd → Int) (e : Int) (l : Wd) : Bool := isHead l && white (f l) e
theorem wh_slots (f : Wd → Int) (e : Int) (room : Nat) : ∀ n, ((List.range n).flatMap (slotL room)).countP (isWh f e) = goneN f e n
  | 0 => rfl
  | n + 1 => by
    rw [List.range_succ, List.flatMap_append, List.countP_append, wh_slots f e room n, goneN_succ]
    congr 1
    rw [List.flatMap_cons, List.flatMap_nil, List.append_nil]
    unfold slotL
    have h0 : ((List.range room).map (Wd.body n)).countP (isWh f e) = 0 := List.countP_eq_zero.mpr fun x hx => by
      obtain ⟨i, _, rfl⟩ := List.mem_map.mp hx; simp [isWh, isHead]
    rw [List.countP_cons, List.countP_cons, h0]
    simp [isWh, isHead]
theorem wh_locs (k : Cfg) (f : Wd → Int) (e : Int) : k.locs.countP (isWh f e) = goneN f e k.S := by
  have h0 : ∀ A : List Wd, (∀ x ∈ A, isHead x = false) → A.countP (isWh f e) = 0 := fun A h => List.countP_eq_zero.mpr fun x hx => by
    unfold isWh; rw [h x hx]; simp
  unfold Cfg.locs
  rw [List.countP_append, wh_slots, h0 _ (fun x hx => by
    simp only [List.mem_append, List.mem_cons, List.not_mem_nil, or_false, List.mem_map, List.mem_flatMap] at hx
    rcases hx with (((h | h | h | h) | ⟨_, _, h⟩) | ⟨_, _, ⟨_, _, h⟩⟩) | ⟨_, _, h | h⟩ <;> (subst h; rfl)), Nat.zero_add]
theorem take_wh {k : Cfg} {f : Wd → Int} {e : Int} {i : Nat} {l : Wd} (h : k.locs[i]? = some l) : (k.locs.take (i + 1)).countP (isWh f e) = (k.locs.take i).countP (isWh f e) + if isWh f e l then 1 else 0 := by
  rw [List.take_succ, h, List.countP_append]
  simp [List.countP_cons]

theorem sweepF_head {k : Cfg} (f : Wd → Int) (e : Int) {q : Nat} (h : q < k.S) : sweepF f e k.S (.header q) = retired (f (.header q)) e := by simp [sweepF, h]
theorem sweepF_other {f : Wd → Int} {e : Int} {n : Nat} {l : Wd} (h : isHead l = false) : sweepF f e n l = f l := by
  cases l <;> first | rfl | cases h

/-- What stands where behind a sweep. -/
structure SsAt (k : Cfg) (g : H) (bw q nb : Nat) (cn : Cap) (f f' : Wd → Int) : Prop where
  w : ∃ kk, g.get bw = some (.cells ((k.row f).map (.int .u64)) kk)
  v : ∃ kk, g.get q = some (.cells ((k.row f').map (.int .u64)) kk)
  n : ∃ kk, g.get nb = some (.cells (k.locs.map Wd.cells).flatten kk)
theorem SsAt.fr {k : Cfg} {g g' : H} {bw q nb : Nat} {cn : Cap} {f f' : Wd → Int} (Z : SsAt k g bw q nb cn f f') (ok : g.ok) (F : Fr [] g g') : SsAt k g' bw q nb cn f f' :=
  ⟨let ⟨a, b⟩ := Z.w; ⟨a, F.get ok b (by simp)⟩, let ⟨a, b⟩ := Z.v; ⟨a, F.get ok b (by simp)⟩, let ⟨a, b⟩ := Z.n; ⟨a, F.get ok b (by simp)⟩⟩

theorem ss_i {i : Nat} (h : i ≤ 1000) : wr .i64 ((i : Int) + 1) = ((i + 1 : Nat) : Int) := by rw [wr64 (by omega) (by omega)]; rfl
theorem ss_e {e : Int} (he : U64 e) : wr .i64 (Int.tmod e 65536) = e % 65536 := by rw [tm he.1, wr64 (by omega) (by omega)]

/-- One word is looked at. -/
theorem ss_word {k : Cfg} (hr : k.R = true) {e : Int} (he : U64 e) {g : H} (ok : g.ok) {bw q nb : Nat} {c1 c2 cn : Cap} {f : Wd → Int} (hU : ∀ l, l.ok k → U64 (f l)) (Z : SsAt k g bw q nb cn f (sweepF f e k.S)) (x8 x9 : V) {i : Nat} (hi : i < k.size) (hg : (k.locs.take i).countP (isWh f e) ≤ i) :
    Ev (S.withylaw14_SweepSweeps_c1_S W e (.sl bw 0 k.size c1) x8 x9 (.sl q 0 k.size c2) (((k.locs.take i).countP (isWh f e) : Nat) : Int) (.sl nb 0 k.size cn) (i : Nat) g) fun r => r.1 = .normal ∧ r.2.1 = S.withylaw14_SweepSweeps_c1_E (.int .u64 e) (.sl bw 0 k.size c1) x8 x9 (.sl q 0 k.size c2) (.int .i64 (((k.locs.take (i + 1)).countP (isWh f e) : Nat) : Int)) (.sl nb 0 k.size cn) (.int .i64 (i + 1 : Nat)) ∧ Fr [] g r.2.2 := by
  have hbd := Cfg.bounds hr
  obtain ⟨l, hl⟩ : ∃ l, k.locs[i]? = some l := ⟨_, List.getElem?_eq_getElem (by rw [locs_length]; exact hi)⟩
  have hlo := mem_locs.mp (List.mem_of_getElem? hl)
  have hlp := locs_at hl
  obtain ⟨⟨k1, w1⟩, ⟨k2, w2⟩, ⟨k3, w3⟩⟩ := Z
  have d1 : decide ((i : Int) < (k.size : Int)) = true := natlt hi
  have ixw : indexAV 1 (.sl bw 0 k.size c1) (.int .i64 (i : Int)) = some (.ptr bw i) := sl_idx1 hi
  have ixv : indexAV 1 (.sl q 0 k.size c2) (.int .i64 (i : Int)) = some (.ptr q i) := sl_idx1 hi
  have ixn : indexAV 3 (.sl nb 0 k.size cn) (.int .i64 (i : Int)) = some (.ptr nb (i * 3)) := sl_idx hi
  have ldw : ldB (g.get bw) i = some (.int .u64 (f l)) := by rw [w1, ldB_cells, List.getElem?_map, ← hlp, row_at hlo]; rfl
  have ldv : ldB (g.get q) i = some (.int .u64 (sweepF f e k.S l)) := by rw [w2, ldB_cells, List.getElem?_map, ← hlp, row_at hlo]; rfl
  have c0 := locs_cells hl 0 (by omega)
  simp only [Nat.add_zero] at c0
  have ldn : ldB (g.get nb) (i * 3) = some (.str l.name) := by rw [w3, ldB_cells, c0]; rfl
  have hw := hU l hlo
  have hn := header_name l
  have wi := ss_i (i := i) (Nat.le_trans (Nat.le_of_lt hi) hbd.2.2.2.2.2)
  have wg := ss_i (Nat.le_trans hg (Nat.le_trans (Nat.le_of_lt hi) hbd.2.2.2.2.2))
  have htk := take_wh (f := f) (e := e) hl
  have hLv := fun h => refLives_spec hw h
  have hMk := fun h => refMarked_spec hw he h
  have we := ss_e he
  cases hh : isHead l with
  | false =>
    rw [hh] at hn
    have hsw : sweepF f e k.S l = f l := sweepF_other hh
    rw [hsw] at ldv
    have hwh : isWh f e l = false := by unfold isWh; rw [hh]; rfl
    rw [hwh] at htk
    simp only [Bool.false_eq_true, if_false, Nat.add_zero] at htk
    have r1 : decide (f l = f l) = true := decide_eq_true rfl
    rw [htk]
    simp only [S.withylaw14_SweepSweeps_c1_S, lenSl_sl, ptrAt_ptr, Option.bind_some, ld1_get', ldN_get', st_get', get_new', stB_cells, Nat.zero_add, Nat.add_zero, Nat.reduceAdd, V.cells, asI_int, List.length_cons, List.length_nil, Nat.beq_refl, Bool.not_true, Bool.false_or, decide_true, decide_false, if_true, splice, List.take_zero, List.nil_append, reduceCtorEq, eqV, W_call, d1, ixw, ixv, ixn, ldw, ldv, ldn, hn, wi]
    exact Ev.some ⟨rfl, rfl, .refl ok⟩
  | true =>
    rw [hh] at hn
    obtain ⟨s, rfl⟩ : ∃ s, l = .header s := by cases l <;> first | exact ⟨_, rfl⟩ | cases hh
    have hsw : sweepF f e k.S (.header s) = retired (f (.header s)) e := sweepF_head f e hlo
    rw [hsw] at ldv
    cases hwt : white (f (.header s)) e with
    | false =>
      have hwh : isWh f e (.header s) = false := by unfold isWh; rw [hwt, Bool.and_false]
      rw [hwh] at htk
      simp only [Bool.false_eq_true, if_false, Nat.add_zero] at htk
      rw [retired_same hwt] at ldv
      have r1 : decide (f (.header s) = f (.header s)) = true := decide_eq_true rfl
      rw [htk]
      cases hlv : lives (f (.header s)) with
      | false =>
        rw [hlv] at hLv
        simp only [S.withylaw14_SweepSweeps_c1_S, lenSl_sl, ptrAt_ptr, Option.bind_some, ld1_get', ldN_get', st_get', get_new', stB_cells, Nat.zero_add, Nat.add_zero, Nat.reduceAdd, V.cells, asI_int, List.length_cons, List.length_nil, Nat.beq_refl, Bool.not_true, Bool.false_or, decide_true, decide_false, if_true, splice, List.take_zero, List.nil_append, reduceCtorEq, eqV, W_call, d1, ixw, ixv, ixn, ldw, ldv, ldn, hn, hLv, wi]
        exact Ev.some ⟨rfl, rfl, .refl ok⟩
      | true =>
        rw [hlv] at hLv
        have hm : markedW (f (.header s)) e = true := by
          cases hmm : markedW (f (.header s)) e with
          | true => rfl
          | false =>
            have h1 : ¬ (unp (f (.header s))).mark = black e := by
              unfold markedW at hmm
              rw [hlv, Bool.true_and] at hmm
              exact of_decide_eq_false hmm
            have := (white_iff (f (.header s)) e).mpr ⟨hlv, h1⟩
            rw [this] at hwt; cases hwt
        rw [hm] at hMk
        simp only [S.withylaw14_SweepSweeps_c1_S, lenSl_sl, ptrAt_ptr, Option.bind_some, ld1_get', ldN_get', st_get', get_new', stB_cells, Nat.zero_add, Nat.add_zero, Nat.reduceAdd, V.cells, asI_int, asB_bool, List.length_cons, List.length_nil, Nat.beq_refl, Bool.not_true, Bool.false_or, decide_true, decide_false, if_true, splice, List.take_zero, List.nil_append, reduceCtorEq, eqV, W_call, d1, ixw, ixv, ixn, ldw, ldv, ldn, hn, hLv, hMk, wi]
        exact Ev.some ⟨rfl, rfl, .refl ok⟩
    | true =>
      have hwh : isWh f e (.header s) = true := by unfold isWh; rw [hwt]; rfl
      rw [hwh] at htk
      simp only [if_true] at htk
      obtain ⟨hlv, hmk⟩ := (white_iff (f (.header s)) e).mp hwt
      rw [hlv] at hLv
      have hm : markedW (f (.header s)) e = false := by unfold markedW; rw [hlv, Bool.true_and]; exact decide_eq_false hmk
      rw [hm] at hMk
      have hret : retired (f (.header s)) e = ({ unp (f (.header s)) with kind := 3, gray := false, stamp := e % 65536 } : Hdr).word := by unfold retired; rw [hwt]; rfl
      have hUn := fun h => refUnp_spec hw h
      have hPk := fun h => refPack_spec (retiredH_right (w := f (.header s)) (e := e)) h
      have hkk : (unp (f (.header s))).cs = [.int .i64 (unp (f (.header s))).kind, .int .i64 (unp (f (.header s))).mark, .bool (unp (f (.header s))).gray, .int .i64 (unp (f (.header s))).arity, .int .i64 (unp (f (.header s))).gen, .int .i64 (unp (f (.header s))).stamp] := rfl
      rw [hkk] at hUn
      have hkp : ({ unp (f (.header s)) with kind := 3, gray := false, stamp := e % 65536 } : Hdr).cs = [.int .i64 3, .int .i64 (unp (f (.header s))).mark, .bool false, .int .i64 (unp (f (.header s))).arity, .int .i64 (unp (f (.header s))).gen, .int .i64 (e % 65536)] := rfl
      rw [hkp, ← hret] at hPk
      have r1 : decide (retired (f (.header s)) e = retired (f (.header s)) e) = true := decide_eq_true rfl
      have nq : q ≠ g.next := Nat.ne_of_lt (ok.lt w2)
      rw [htk]
      simp only [S.withylaw14_SweepSweeps_c1_S, lenSl_sl, ptrAt_ptr, Option.bind_some, Option.map_some, ld1_get', ldN_get', st_get', get_put', get_new', put_put', ldNB_cells, stB_cells, List.getElem?_cons_zero, List.getElem?_cons_succ, Nat.zero_add, Nat.add_zero, Nat.reduceAdd, Nat.reduceLeDiff, V.one, V.cells, asI_int, asB_bool, List.length_cons, List.length_nil, Nat.beq_refl, List.all_cons, List.all_nil, Bool.not_true, Bool.not_false, Bool.false_or, Bool.or_self, Bool.and_self, decide_true, decide_false, if_true, if_false, splice, List.take_succ_cons, List.take_zero, List.drop_succ_cons, List.drop_zero, List.cons_append, List.nil_append, reduceCtorEq, eqV, W_call, d1, ixw, ixv, ixn, ldw, ldv, ldn, hn, hLv, hMk, hUn, we, hPk, nq, wi, wg]
      exact Ev.some ⟨rfl, rfl, ((Fr.refl ok).new _).put (.inr (Nat.le_refl _)) (Nat.lt_succ_self _) _⟩

/-- What a Sweep of a heap comes to. -/
structure SweptAt (k : Cfg) (g : H) (p pw b : Nat) (e : Int) (f : Wd → Int) (was n : Int) : Prop where
  swp : SwpAt g b k e ⟨goneN f e k.S, k.S, was, false⟩
  mem : MemF g p pw k (sweepF f e k.S) n
  n1 : b ≠ p
  n2 : b ≠ pw

theorem ss_over {k : Cfg} {e : Int} {s : Swp} (h : s.slot = k.S) (f : Wd → Int) : s.step k e f = (s, f) ∧ s.works k = false := by
  unfold Swp.step Swp.works
  rw [if_pos h, decide_eq_true h]; exact ⟨rfl, rfl⟩
/-- The law's end. -/
theorem ss_end {k : Cfg} (hr : k.R = true) {e : Int} (he : U64 e) {g : H} (ok : g.ok) {p pw b : Nat} {f : Wd → Int} {was n : Int} (Z : SweptAt k g p pw b e f was n) (x6 : V) {gn : Int} (hg : gn = ((goneN f e k.S : Nat) : Int)) :
    Ev (S.withylaw14_SweepSweeps_c1_e0 W x6 (.ptr p 0) (.ptr b 0) gn g) fun r => r.1 = .bool true := by
  obtain ⟨Zs, M, h1, h2⟩ := Z
  have ht := M.touches
  have hown := Zs.own
  have hst := Zs.step ok hr he M h1 h2
  obtain ⟨e1, e2⟩ := ss_over (k := k) (e := e) (s := ⟨goneN f e k.S, k.S, was, false⟩) rfl (sweepF f e k.S)
  rw [e1, e2] at hst
  have d1 : decide (((goneN f e k.S : Nat) : Int) = gn) = true := decide_eq_true hg.symm
  have d2 : decide (k.S = k.S) = true := decide_eq_true rfl
  have d3 : decide (n = n) = true := decide_eq_true rfl
  generalize ((goneN f e k.S : Nat) : Int) = gg at hown d1
  simp only [S.withylaw14_SweepSweeps_c1_e0, nilc_ptr, ptrAt_ptr, Option.bind_some, ld1_get', ldB_cells, List.getElem?_cons_zero, Nat.add_zero, V.one, asI_int, W_call, ht, hown, d1]
  refine Ev.bind hst ?_
  rintro ⟨_, g'⟩ ⟨rfl, F, Z', M'⟩
  dsimp only at M' ⊢
  have ht' := M'.touches
  simp only [Bool.false_eq_true, if_false] at ht'
  simp only [Option.bind_some, asI_int, decide_true, ht']
  exact Ev.some rfl

def shSweepSweeps : List (Bool × List CSh) := [(true, [.int .i64, .int .i64, .int .i64, .int .i64, .int .i64, .int .i64]), (false, [.sl 72 [.int .i64, .int .i64, .bool, .int .i64, .int .i64, .int .i64, .sl 8 [.int .u64]]]), (false, [.int .u64])]

theorem ss_2 {k : Cfg} (hr : k.R = true) : wr .i64 (2 * k.s) = ((2 * k.S : Nat) : Int) ∧ 2 * k.S < 1000000 ∧ (0 : Nat) ≠ k.S := by
  have := Cfg.R_iff.mp hr
  have h2 := (Cfg.bounds hr).1
  have hks : k.s = (k.S : Int) := by unfold Cfg.S; omega
  rw [hks, wr64 (by omega) (by omega)]
  omega
/-- A heap that is laid, and its memory. -/
theorem laid_mem {k : Cfg} (hr : k.R = true) {h : H} (ok : h.ok) {bw : Nat} {c : Cap} {kk : Bk} {f : Wd → Int} (hU : ∀ w, U64 (f w)) (hw : h.get bw = some (.cells ((k.row f).map (.int .u64)) kk)) :
    Ev (C 198 [.sl bw 0 k.size c] h) fun r => ∃ p q, r.1 = .ptr p 0 ∧ Fr [] h r.2 ∧ h.next ≤ p ∧ h.next ≤ q ∧ MemF r.2 p q k f 0 := by
  have hbd := Cfg.bounds hr
  have hsz : 4 ≤ k.size := by unfold Cfg.size Cfg.base; omega
  refine (memOf_spec (x := .sl bw 0 k.size c) (ws := k.row f) ok ⟨by rw [row_length]; omega, .inr ⟨bw, _, _, by rw [row_length], hw⟩⟩ (by intro q; have := row_length k f; rw [q] at this; simp only [List.length_nil] at this; omega) (by rw [row_length]; omega) (row_U64 hU)).mono ?_
  rintro r ⟨p, q, h1, h2, h3, h4, h5⟩
  exact ⟨p, q, h1, h2, h3, h4, _, h5⟩

theorem lawSweepSweeps (h : H) (us : List V) (ok : h.ok) (ha : ArgsOk h.get shSweepSweeps us) : Ev (C 40 us h) fun r => r.1 = .bool true := by
  obtain ⟨_, _, rfl, ⟨_, rfl, _, _, rfl, ⟨s, rfl, _⟩, _, _, rfl, ⟨a, rfl, _⟩, _, _, rfl, ⟨c, rfl, _⟩, _, _, rfl, ⟨hd, rfl, _⟩, _, _, rfl, ⟨g, rfl, _⟩, _, _, rfl, ⟨st, rfl, _⟩, rfl⟩, _, _, rfl, ⟨_, _, hx1, hx1c, rfl⟩, _, _, rfl, ⟨_, _, he, ⟨e, rfl, be⟩, rfl⟩, rfl⟩ := ha
  cases hx1; cases he
  rename_i x1
  obtain ⟨l, hx, hu, _, _⟩ := rowS_of hx1c
  have hE := wf_u64 be
  refine call_ev (af := F.withylaw14_SweepSweeps) (by kernel_rfl) rfl ?_
  rw [S.withylaw14_SweepSweeps_eq]
  have hfit := Fit_spec ⟨s, a, c, hd, g, st⟩
  have hr := Cfg.fit_R ⟨s, a, c, hd, g, st⟩
  generalize Cfg.fit ⟨s, a, c, hd, g, st⟩ = k at hfit hr
  have hv : ∀ k : Cfg, k.v = .agg [.int .i64 k.s, .int .i64 k.a, .int .i64 k.c, .int .i64 k.hd, .int .i64 k.g, .int .i64 k.st] := fun _ => rfl
  rw [hv, hv] at hfit
  simp only at hfit
  have hxl := hx.len
  by_cases h20 : 20 < l.length
  · have d : decide ((20 : Int) < (l.length : Int)) = true := decide_eq_true (by omega)
    simp only [S.withylaw14_SweepSweeps, Option.bind_some, Option.map_some, ldN_get', st_get', get_new', ldNB_cells, stB_cells, Nat.zero_add, Nat.reduceAdd, Nat.reduceLeDiff, V.one, V.cells, List.length_cons, List.length_nil, Nat.beq_refl, List.all_cons, List.all_nil, Bool.not_true, Bool.or_self, Bool.and_self, decide_true, decide_false, if_true, splice, List.take_succ_cons, List.take_zero, List.drop_succ_cons, List.drop_zero, List.cons_append, List.nil_append, reduceCtorEq, W_call, hfit, hxl, d, awake14]
    exact Ev.some rfl
  have d : decide ((20 : Int) < (l.length : Int)) = false := decide_eq_false (by omega)
  simp only [S.withylaw14_SweepSweeps, Option.bind_some, Option.map_some, ld1_get', ldN_get', st_get', get_put', get_new', ldNB_cells, stB_cells, Nat.zero_add, Nat.reduceAdd, Nat.reduceLeDiff, V.one, V.cells, asB_bool, List.length_cons, List.length_nil, Nat.beq_refl, List.all_cons, List.all_nil, Bool.not_true, Bool.or_self, Bool.and_self, decide_true, decide_false, if_true, splice, List.take_succ_cons, List.take_zero, List.drop_succ_cons, List.drop_zero, List.cons_append, List.nil_append, reduceCtorEq, eqV, W_call, hfit, hxl, d, awake14]
  generalize hg0 : (h.new _).put h.next _ = g0
  have hc0 : g0.get h.next = some (.cells [.int .i64 k.s, .int .i64 k.a, .int .i64 k.c, .int .i64 k.hd, .int .i64 k.g, .int .i64 k.st] .rw) := by rw [← hg0]; exact get_put_self _ _ _
  have f0 : Fr [] h g0 := by rw [← hg0]; exact ((Fr.refl ok).new _).put (.inr (Nat.le_refl _)) (Nat.lt_succ_self _) _
  have hLd := laid_spec hr f0.ok (x2 := .nilsl) (x3 := .nilsl) (roots := []) (views := []) (hx.fr ok f0) hu (.inl ⟨rfl, rfl⟩) (by simp) (.inl ⟨rfl, rfl⟩) (by simp)
  rw [hv] at hLd
  have hU : ∀ w, U64 (laidW k l [] [] w) := fun w => laidW_U64 hr hu (by simp) w
  generalize laidW k l [] [] = f at hLd hU
  refine Ev.bind hLd ?_
  rintro ⟨_, g1⟩ ⟨bw, rfl, F1, hbw, hw1⟩
  dsimp only at F1 hw1 ⊢
  have ok1 := F1.ok
  have hc1 := F1.get f0.ok hc0 (by simp)
  refine Ev.bind (laid_mem hr ok1 hU hw1) ?_
  rintro ⟨_, g2⟩ ⟨p, pw, rfl, F2, hp, hpw, M2⟩
  dsimp only at F2 M2 ⊢
  have ok2 := F2.ok
  have hc2 := F2.get ok1 hc1 (by simp)
  have hNS := newSweep_spec hr e ok2
  rw [hv] at hNS
  simp only [eqPtr_ptr, Option.bind_some, ldNB_cells, Nat.zero_add, Nat.reduceAdd, Nat.reduceLeDiff, List.length_cons, List.length_nil, decide_true, List.take_succ_cons, List.take_zero, List.drop_zero, hc2]
  refine Ev.bind hNS ?_
  rintro ⟨_, g3⟩ ⟨b, rfl, F3, hb, Z3⟩
  dsimp only at F3 Z3 ⊢
  have ok3 := F3.ok
  have hc3 := F3.get ok2 hc2 (by simp)
  obtain ⟨w2, m2, n0⟩ := ss_2 hr
  obtain ⟨pl, pwl, pne⟩ := M2.lt ok2
  have nb1 : b ≠ p := Nat.ne_of_gt (Nat.lt_of_lt_of_le pl hb)
  have nb2 : b ≠ pw := Nat.ne_of_gt (Nat.lt_of_lt_of_le pwl hb)
  have M3 := M2.fr ok2 F3 (by simp) (by simp)
  have G : Go (swpX k e) (swpFin k) (2 * k.S) (⟨0, 0, 0, false⟩, f, 0) (fun y => ∃ was, y.1 = ⟨goneN f e k.S, k.S, was, false⟩ ∧ y.2.1 = sweepF f e k.S) := by
    obtain ⟨S', hS'⟩ : ∃ S', k.S = S' + 1 := ⟨k.S - 1, by clear w2; omega⟩
    have := sweep_go (k := k) (e := e) (f := f) (Q := fun y => ∃ was, y.1 = ⟨goneN f e k.S, k.S, was, false⟩ ∧ y.2.1 = sweepF f e k.S) (fun was n => ⟨was, rfl, rfl⟩) S' 0 0 0 (by rw [hS', Nat.zero_add])
    rw [sweepF_zero, ← hS'] at this
    exact this
  have hEnds := sweep_ends hr hE ok3 nb1 nb2 Z3 M3 n0 (most := ((2 * k.S : Nat) : Int)) (Int.le_refl _) m2 G
  generalize ((2 * k.S : Nat) : Int) = most at w2 hEnds
  simp only [eqPtr_ptr, Option.bind_some, ldB_cells, List.getElem?_cons_zero, V.one, asI_int, hc3, w2]
  refine Ev.bind hEnds ?_
  rintro ⟨_, g4⟩ ⟨rfl, ⟨s4, f4, n4⟩, ⟨was, hs4, hf4⟩, _, F4, Z4, M4⟩
  dsimp only at hs4 hf4 F4 Z4 M4 ⊢
  subst hs4 hf4
  have ok4 := F4.ok
  have nh : ∀ {c : Nat}, c < g1.next → c ∉ [b, p, pw] := fun {c} hc => by
    have h1 : c ≠ p := fun q => absurd hc (Nat.not_lt_of_le (q ▸ hp))
    have h2 : c ≠ pw := fun q => absurd hc (Nat.not_lt_of_le (q ▸ hpw))
    have h3 : c ≠ b := fun q => absurd (Nat.lt_of_lt_of_le hc F2.le) (Nat.not_lt_of_le (q ▸ hb))
    simp [h1, h2, h3]
  have hc4 := F4.get ok3 hc3 (nh (ok1.lt hc1))
  have hw4 := F4.get ok3 (F3.get ok2 (F2.get ok1 hw1 (by simp)) (by simp)) (nh (ok1.lt hw1))
  simp only [Option.bind_some, asB_bool, Bool.not_true]
  refine Ev.bind (M4.words ok4) ?_
  rintro ⟨_, g5⟩ ⟨q, rfl, F5, hq, hq5⟩
  dsimp only at F5 hq5 ⊢
  have ok5 := F5.ok
  have hc5 := F5.get ok4 hc4 (by simp)
  obtain ⟨g6, nb, cn, kn, e6, F6, hnb, hn6⟩ := Words_spec hr ok5
  rw [hv] at e6
  have ok6 := F6.ok
  simp only [Option.bind_some, ldNB_cells, Nat.zero_add, Nat.reduceAdd, Nat.reduceLeDiff, List.length_cons, List.length_nil, decide_true, List.take_succ_cons, List.take_zero, List.drop_zero, hc5, e6]
  have F46 : Fr [] g4 g6 := F5.trans' F6
  have Z6 : SweptAt k g6 p pw b e f was n4 := ⟨Z4.fr ok4 F46 (by simp), M4.fr ok4 F46 (by simp) (by simp), nb1, nb2⟩
  have A6 : SsAt k g6 bw q nb cn f (sweepF f e k.S) := ⟨⟨_, F46.get ok4 hw4 (by simp)⟩, ⟨_, F6.get ok5 hq5 (by simp)⟩, ⟨_, hn6⟩⟩
  refine loop_ev (α := Nat) (fun i => S.withylaw14_SweepSweeps_c1_E (.int .u64 e) (.sl bw 0 k.size (.ex k.size)) (.ptr p 0) (.ptr b 0) (.sl q 0 k.size (.op 1)) (.int .i64 (((k.locs.take i).countP (isWh f e) : Nat) : Int)) (.sl nb 0 k.size cn) (.int .i64 (i : Nat)))
    (fun i g => i ≤ k.size ∧ Fr [] g6 g) (fun i _ => k.size - i)
    (fun r => r.1 = .exit 0 ∧ r.2.1 = S.withylaw14_SweepSweeps_c1_O .dead (.ptr p 0) (.ptr b 0) (.int .i64 ((goneN f e k.S : Nat) : Int)) ∧ Fr [] g6 r.2.2)
    0 rfl ⟨Nat.zero_le _, .refl ok6⟩ ?_ ?_
  rotate_left
  · rintro ⟨_, _, g7⟩ ⟨rfl, rfl, F7⟩
    show Ev (S.withylaw14_SweepSweeps_K2 W (.exit 0) _ g7) _
    rw [S.withylaw14_SweepSweeps_c1_e0_eq]
    exact ss_end hr hE F7.ok (⟨Z6.swp.fr ok6 F7 (by simp), Z6.mem.fr ok6 F7 (by simp) (by simp), nb1, nb2⟩ : SweptAt k g7 p pw b e f was n4) _ rfl
  rintro i g7 ⟨hi, F7⟩
  rw [S.withylaw14_SweepSweeps_c1_eq]
  by_cases hik : i < k.size
  · have hcnt : (k.locs.take i).countP (isWh f e) ≤ i := Nat.le_trans List.countP_le_length (by rw [List.length_take]; exact Nat.min_le_left _ _)
    refine (ss_word hr hE F7.ok (fun w _ => hU w) (A6.fr ok6 F7) _ _ hik hcnt).mono ?_
    rintro ⟨_, _, g8⟩ ⟨rfl, rfl, F8⟩
    exact .inl ⟨i + 1, rfl, rfl, ⟨hik, F7.trans' F8⟩, Nat.sub_lt_sub_left hik (Nat.lt_succ_self i)⟩
  · have hie : i = k.size := Nat.le_antisymm hi (Nat.le_of_not_lt hik)
    subst hie
    have hall : (k.locs.take k.size).countP (isWh f e) = goneN f e k.S := by rw [← locs_length, List.take_length, wh_locs]
    rw [hall]
    have dd : decide ((k.size : Int) < (k.size : Int)) = false := decide_eq_false (Int.lt_irrefl _)
    have hls : lenSl (.sl nb 0 k.size cn) = some k.size := rfl
    simp only [S.withylaw14_SweepSweeps_c1_S, hls, Option.bind_some, dd]
    exact Ev.some (.inr ⟨by simp, rfl, rfl, F7⟩)
end Wm
end

