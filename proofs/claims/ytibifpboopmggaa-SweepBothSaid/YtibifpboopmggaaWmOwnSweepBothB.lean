/- What the functions come to, and the law: of my machine. -/
import Derived.Test.YtibifpboopmggaaWmOwnSweepBothA
import Derived.Test.YtibifpboopmggaaWmTxtSweepBothA
import Derived.Test.YtibifpboopmggaaWmProgSweepBoth
import Derived.Test.YtibifpboopmggaaWmFast
import Derived.Test.YtibifpboopmggaaWmPOp0
set_option linter.all false
section
/- The document's words of heaps: withyref13.at, Grays. -/
namespace Wm
attribute [local congr] bind_congr1
attribute [local irreducible] wr

/-- Words in a slice. -/
structure WordsAt (k : Cfg) (g : H) (b : Nat) (f : Wd → Int) : Prop where
  own : ∃ kk, g.get b = some (.cells ((k.row f).map (.int .u64)) kk)
  u64 : ∀ l, l.ok k → U64 (f l)
theorem WordsAt.fr {k : Cfg} {g g' : H} {b : Nat} {f : Wd → Int} {L : List Nat} (Z : WordsAt k g b f) (ok : g.ok) (F : Fr L g g') (hb : b ∉ L) : WordsAt k g' b f :=
  ⟨let ⟨kk, h⟩ := Z.own; ⟨kk, F.get ok h hb⟩, Z.u64⟩
theorem WordsAt.lt {k : Cfg} {g : H} {b : Nat} {f : Wd → Int} (Z : WordsAt k g b f) (ok : g.ok) : b < g.next := let ⟨_, h⟩ := Z.own; ok.lt h
theorem WordsAt.ld {k : Cfg} {g : H} {b : Nat} {f : Wd → Int} (Z : WordsAt k g b f) {l : Wd} (hl : l.ok k) : ldB (g.get b) (l.pos k) = some (.int .u64 (f l)) := by
  obtain ⟨kk, h⟩ := Z.own
  rw [h, ldB_cells, List.getElem?_map, row_at hl]; rfl
theorem words_ix {k : Cfg} {b : Nat} {c : Cap} {l : Wd} (hl : l.ok k) : indexAV 1 (.sl b 0 k.size c) (.int .i64 (l.pos k : Nat)) = some (.ptr b (l.pos k)) := sl_idx1 (pos_lt hl)

theorem refAt13 {k : Cfg} (hr : k.R = true) {l : Wd} (hl : l.ok k) {h : H} (ok : h.ok) {b : Nat} {c : Cap} {f : Wd → Int} (Z : WordsAt k h b f) :
    Ev (C 322 [k.v, .sl b 0 k.size c, .str l.name, .int .i64 l.who, .int .i64 l.i] h) fun r => r.1 = .int .u64 (f l) ∧ Fr [] h r.2 := by
  refine call_ev (af := F.withyref13_at) (by kernel_rfl) rfl ?_
  have hv : k.v = .agg [.int .i64 k.s, .int .i64 k.a, .int .i64 k.c, .int .i64 k.hd, .int .i64 k.g, .int .i64 k.st] := rfl
  rw [hv, S.withyref13_at_eq]
  have hat := at_wd hr hl
  rw [hv] at hat
  unfold Wd.cells at hat
  have hn : ¬ (((l.pos k : Nat) : Int) < 0) := Int.not_lt.mpr (Int.natCast_nonneg _)
  have d : decide (((l.pos k : Nat) : Int) < 0) = false := decide_eq_false hn
  have hbl := Z.lt ok
  have nb : b ≠ h.next := Nat.ne_of_lt hbl
  have hix := words_ix (b := b) (c := c) hl
  have hld := Z.ld hl
  simp only [S.withyref13_at, Option.bind_some, ld1_get', ldN_get', get_new', ldNB_cells, Nat.zero_add, Nat.reduceAdd, Nat.reduceLeDiff, asI_int, List.length_cons, List.length_nil, decide_true, if_true, if_false, List.take_succ_cons, List.take_zero, List.drop_zero, W_call, hat, d, hix, nb, hld]
  exact Ev.some ⟨rfl, (Fr.refl ok).new _⟩

theorem cnt_succ (p : Nat → Bool) (n : Nat) : ((List.range (n + 1)).filter p).length = ((List.range n).filter p).length + if p n then 1 else 0 := by
  rw [List.range_succ, List.filter_append, List.length_append]
  by_cases h : p n
  · simp [h]
  · simp [h]
theorem gr_lt {i S : Nat} : decide ((i : Int) < (S : Int)) = decide (i < S) := by congr 1; apply propext; omega
theorem gr_i {i : Nat} (h : i < 1000) : wr .i64 ((i : Int) + 1) = ((i + 1 : Nat) : Int) := by rw [wr64 (by omega) (by omega)]; rfl

theorem refGrays13_spec {k : Cfg} (hr : k.R = true) {h : H} (ok : h.ok) {b : Nat} {c : Cap} {f : Wd → Int} (Z : WordsAt k h b f) :
    Ev (C 297 [k.v, .sl b 0 k.size c] h) fun r => r.1 = .int .i64 (graysN k f : Nat) ∧ Fr [] h r.2 := by
  refine call_ev (af := F.withyref13_Grays) (by kernel_rfl) rfl ?_
  have hbd := Cfg.bounds hr
  have hks : k.s = (k.S : Int) := by have := Cfg.R_iff.mp hr; unfold Cfg.S; omega
  have hv : k.v = .agg [.int .i64 k.s, .int .i64 k.a, .int .i64 k.c, .int .i64 k.hd, .int .i64 k.g, .int .i64 k.st] := rfl
  rw [hv, S.withyref13_Grays_eq]
  simp only [S.withyref13_Grays]
  have F0 : Fr [] h (h.new (.cells [.int .i64 k.s, .int .i64 k.a, .int .i64 k.c, .int .i64 k.hd, .int .i64 k.g, .int .i64 k.st] .rw)) := (Fr.refl ok).new _
  refine loop_ev (α := Nat) (fun i => S.withyref13_Grays_c1_E (.sl b 0 k.size c) (.ptr h.next 0) (.int .i64 ((((List.range i).filter fun q => grayW (f (.header q))).length : Nat) : Int)) (.int .i64 (i : Nat)))
    (fun i g => i ≤ k.S ∧ Fr [] h g ∧ g.get h.next = some (.cells [.int .i64 k.s, .int .i64 k.a, .int .i64 k.c, .int .i64 k.hd, .int .i64 k.g, .int .i64 k.st] .rw)) (fun i _ => k.S - i)
    (fun r => r.1 = .exit 0 ∧ r.2.1 = S.withyref13_Grays_c1_O (.int .i64 (graysN k f : Nat)) ∧ Fr [] h r.2.2)
    0 rfl ⟨Nat.zero_le _, F0, get_new_self _ _⟩ ?_ ?_
  rotate_left
  · rintro ⟨_, _, g⟩ ⟨rfl, rfl, F⟩
    show Ev (S.withyref13_Grays_K2 W (.exit 0) _ g) _
    rw [S.withyref13_Grays_c1_e0_eq]
    exact Ev.some ⟨rfl, F⟩
  rintro i g ⟨hi, F, hc⟩
  rw [S.withyref13_Grays_c1_eq]
  have d1 : decide ((i : Int) < k.s) = decide (i < k.S) := by rw [hks]; exact gr_lt
  by_cases hik : i < k.S
  rotate_left
  · rw [decide_eq_false hik] at d1
    have he : i = k.S := Nat.le_antisymm hi (Nat.le_of_not_lt hik)
    subst he
    simp only [S.withyref13_Grays_c1_S, ptrAt_ptr, Option.bind_some, ld1_get', ldN_get', st_get', get_new', ldB_cells, ldNB_cells, stB_cells, List.getElem?_cons_zero, Nat.zero_add, Nat.add_zero, Nat.reduceAdd, Nat.reduceLeDiff, V.one, V.cells, asI_int, List.length_cons, List.length_nil, Bool.false_or, decide_true, decide_false, if_true, splice, List.take_succ_cons, List.take_zero, List.drop_zero, List.nil_append, reduceCtorEq, W_call, hc, d1]
    exact Ev.some (.inr ⟨by simp, rfl, rfl, F⟩)
  rw [decide_eq_true hik] at d1
  have hok : (Wd.header i).ok k := hik
  have hle := List.length_filter_le (fun q => grayW (f (.header q))) (List.range i)
  rw [List.length_range] at hle
  have hi64 : i < 1000 := Nat.lt_of_lt_of_le hik (Nat.le_trans hbd.1.2 (by decide))
  have wi := gr_i hi64
  have wc := gr_i (Nat.lt_of_le_of_lt hle hi64)
  have hA := refAt13 hr hok F.ok (c := c) (Z.fr ok F (by simp))
  have hA' : Ev (C 322 [.agg [.int .i64 k.s, .int .i64 k.a, .int .i64 k.c, .int .i64 k.hd, .int .i64 k.g, .int .i64 k.st], .sl b 0 k.size c, .str ⟨⟨[104, 101, 97, 100, 101, 114]⟩⟩, .int .i64 (i : Int), .int .i64 0] g) fun r => r.1 = .int .u64 (f (.header i)) ∧ Fr [] g r.2 := hA
  have hcs := cnt_succ (fun q => grayW (f (.header q))) i
  simp only [S.withyref13_Grays_c1_S, ptrAt_ptr, Option.bind_some, ld1_get', ldN_get', st_get', get_new', ldB_cells, ldNB_cells, stB_cells, List.getElem?_cons_zero, Nat.zero_add, Nat.add_zero, Nat.reduceAdd, Nat.reduceLeDiff, V.one, V.cells, asI_int, List.length_cons, List.length_nil, Bool.false_or, decide_true, decide_false, if_true, splice, List.take_succ_cons, List.take_zero, List.drop_zero, List.nil_append, reduceCtorEq, W_call, hc, d1]
  refine Ev.bind hA' ?_
  rintro ⟨_, g2⟩ ⟨rfl, F2⟩
  have ok2 := F2.ok
  have hU := Z.u64 _ hok
  have hUn := fun h => refUnp_spec hU h
  have hkk : (unp (f (.header i))).cs = [.int .i64 (unp (f (.header i))).kind, .int .i64 (unp (f (.header i))).mark, .bool (unp (f (.header i))).gray, .int .i64 (unp (f (.header i))).arity, .int .i64 (unp (f (.header i))).gen, .int .i64 (unp (f (.header i))).stamp] := rfl
  rw [hkk] at hUn
  have F3 : ∀ b1 b2, Fr [] h ((g2.new b1).put g2.next b2) := fun b1 b2 => ((F.trans' F2).new _).put (.inr (Nat.le_trans F.le F2.le)) (Nat.lt_succ_self _) _
  have hcl := F.ok.lt hc
  have hc2 := F2.get F.ok hc (by simp)
  have ncn : h.next ≠ g2.next := Nat.ne_of_lt (F2.lt hcl)
  have hc3 : ∀ b1 b2, ((g2.new b1).put g2.next b2).get h.next = some (.cells [.int .i64 k.s, .int .i64 k.a, .int .i64 k.c, .int .i64 k.hd, .int .i64 k.g, .int .i64 k.st] .rw) := fun b1 b2 => by
    rw [get_put_ne ncn, get_new_ne ncn]; exact hc2
  have hgw : grayW (f (.header i)) = (okT (f (.header i)) && (unp (f (.header i))).gray) := rfl
  dsimp only
  cases ho : okT (f (.header i)) with
  | false =>
    rw [ho] at hUn hgw
    rw [hgw] at hcs
    simp only [Bool.false_and, Bool.false_eq_true, if_false, Nat.add_zero] at hcs
    simp only [Option.bind_some, Option.map_some, List.getElem?_cons_zero, List.getElem?_cons_succ, Nat.zero_add, Nat.reduceAdd, Nat.reduceLeDiff, V.one, List.length_cons, List.length_nil, Nat.beq_refl, List.all_cons, List.all_nil, Bool.not_true, Bool.or_self, Bool.and_self, decide_true, List.drop_succ_cons, List.drop_zero, List.cons_append, List.nil_append, hUn, wi]
    exact Ev.some (.inl ⟨i + 1, rfl, by rw [hcs], ⟨hik, F3 _ _, hc3 _ _⟩, Nat.sub_lt_sub_left hik (Nat.lt_succ_self i)⟩)
  | true =>
    rw [ho, Bool.true_and] at hgw
    rw [ho] at hUn
    cases hg : (unp (f (.header i))).gray with
    | false =>
      rw [hg] at hgw hUn
      rw [hgw] at hcs
      simp only [Bool.false_eq_true, if_false, Nat.add_zero] at hcs
      simp only [Option.bind_some, Option.map_some, get_put', get_new', ldB_cells, List.getElem?_cons_zero, List.getElem?_cons_succ, Nat.zero_add, Nat.reduceAdd, Nat.reduceLeDiff, V.one, asB_bool, List.length_cons, List.length_nil, Nat.beq_refl, List.all_cons, List.all_nil, Bool.not_true, Bool.or_self, Bool.and_self, decide_true, if_true, List.drop_succ_cons, List.drop_zero, List.cons_append, List.nil_append, hUn, wi]
      exact Ev.some (.inl ⟨i + 1, rfl, by rw [hcs], ⟨hik, F3 _ _, hc3 _ _⟩, Nat.sub_lt_sub_left hik (Nat.lt_succ_self i)⟩)
    | true =>
      rw [hg] at hgw hUn
      rw [hgw] at hcs
      simp only [if_true] at hcs
      simp only [Option.bind_some, Option.map_some, get_put', get_new', ldB_cells, List.getElem?_cons_zero, List.getElem?_cons_succ, Nat.zero_add, Nat.reduceAdd, Nat.reduceLeDiff, V.one, asB_bool, List.length_cons, List.length_nil, Nat.beq_refl, List.all_cons, List.all_nil, Bool.not_true, Bool.or_self, Bool.and_self, decide_true, if_true, List.drop_succ_cons, List.drop_zero, List.cons_append, List.nil_append, hUn, wi, wc]
      exact Ev.some (.inl ⟨i + 1, rfl, by rw [hcs], ⟨hik, F3 _ _, hc3 _ _⟩, Nat.sub_lt_sub_left hik (Nat.lt_succ_self i)⟩)
end Wm
end

section
/- The free list, by the document: withyref07.List, Same. -/
namespace Wm
attribute [local congr] bind_congr1
attribute [local irreducible] wr

def natI (l : List Nat) : List Int := l.map fun q : Nat => (q : Int)
theorem natI_len (l : List Nat) : (natI l).length = l.length := List.length_map _
theorem natI_snoc (l : List Nat) (q : Nat) : natI (l ++ [q]) = natI l ++ [(q : Int)] := by unfold natI; rw [List.map_append]; rfl
/-- A list of slots, by links. -/
def ChainL (k : Cfg) (f : Wd → Int) : Int → List Nat → Prop
  | n, [] => n = 0
  | n, q :: l => n = q + 1 ∧ q < k.S ∧ ChainL k f (f (.link q)) l
theorem ChainL.congr {k : Cfg} {f f' : Wd → Int} : ∀ {l : List Nat} {n : Int}, ChainL k f n l → (∀ q ∈ l, f' (.link q) = f (.link q)) → ChainL k f' n l
  | [], _, h, _ => h
  | q :: l, n, ⟨h1, h2, h3⟩, e => ⟨h1, h2, by rw [e q (by simp)]; exact h3.congr fun q' hq => e q' (by simp [hq])⟩

theorem l7_i {i : Nat} (h : i < 1000) : wr .i64 ((i : Int) + 1) = ((i + 1 : Nat) : Int) := by rw [wr64 (by omega) (by omega)]; rfl
theorem grown_row {kd : Go.IntKind} {g : Nat → Option Blk} {x : V} {ws : List Int} (G : Grown g x 1 (ws.map (.int kd))) : RowN kd g x ws := by
  obtain ⟨rfl, h⟩ | ⟨b, n, rfl, hl, hb⟩ := G
  · exact .inl ⟨rfl, by simpa using h⟩
  · rw [List.length_map, Nat.mul_one] at hl
    exact .inr ⟨b, _, _, by rw [hl], hb⟩
theorem l7_q {q S : Nat} (h : q < S) (h64 : S ≤ 64) : decide ((1 : Int) ≤ (q : Int) + 1) = true ∧ decide ((q : Int) + 1 ≤ (S : Int)) = true ∧ wr .i64 ((wr .i64 ((q : Int) + 1)) - 1) = (q : Int) := by
  refine ⟨decide_eq_true (by omega), decide_eq_true (by omega), ?_⟩
  rw [wr64 (n := (q : Int) + 1) (by omega) (by omega), wr64 (by omega) (by omega)]; omega

theorem list07_spec {k : Cfg} (hr : k.R = true) {h : H} (ok : h.ok) {b : Nat} {c : Cap} {f : Wd → Int} (Z : WordsAt k h b f) {l : List Nat} (hc : ChainL k f (f .top % 65536) l) (hl : l.length ≤ k.S) :
    Ev (C 143 [k.v, .sl b 0 k.size c] h) fun r => Fr [] h r.2 ∧ RowN .i64 r.2.get r.1 (natI l) ∧ ∀ c ∈ r.1.blk, h.next ≤ c := by
  refine call_ev (af := F.withyref07_List) (by kernel_rfl) rfl ?_
  have hbd := Cfg.bounds hr
  have hks : k.s = (k.S : Int) := by have := Cfg.R_iff.mp hr; unfold Cfg.S; omega
  have hv : k.v = .agg [.int .i64 k.s, .int .i64 k.a, .int .i64 k.c, .int .i64 k.hd, .int .i64 k.g, .int .i64 k.st] := rfl
  have hR := fun h => ref06Right_spec k.s k.a k.c k.hd k.g k.st h
  unfold cfgV at hR
  rw [show cfgR k.s k.a k.c k.hd k.g k.st = true from hr] at hR
  obtain ⟨g0, nb, cn, kn, e0, F0, hnb, hn0⟩ := Words_spec hr (ok.new (.cells [.int .i64 k.s, .int .i64 k.a, .int .i64 k.c, .int .i64 k.hd, .int .i64 k.g, .int .i64 k.st] .rw))
  rw [hv] at e0
  rw [hv, S.withyref07_List_eq]
  have Fh : Fr [] h g0 := ((Fr.refl ok).new _).trans' F0
  have hc0 : g0.get h.next = some (.cells [.int .i64 k.s, .int .i64 k.a, .int .i64 k.c, .int .i64 k.hd, .int .i64 k.g, .int .i64 k.st] .rw) := F0.get (ok.new _) (get_new_self _ _) (by simp)
  have Z0 := Z.fr ok Fh (by simp)
  have hsz : 4 ≤ k.size := by unfold Cfg.size Cfg.base; omega
  have i3 : indexAV 1 (.sl b 0 k.size c) (.int .i64 3) = some (.ptr b 3) := words_ix (l := .top) trivial
  have l3 : ldB (g0.get b) 3 = some (.int .u64 (f .top)) := Z0.ld (l := .top) trivial
  have htu := Z.u64 .top trivial
  have htm : Int.tmod (f .top) 65536 = f .top % 65536 := tm htu.1
  have dsz : decide ((k.size : Int) = (k.size : Int)) = true := decide_eq_true rfl
  have hls : lenSl (.sl b 0 k.size c) = some k.size := rfl
  have hls2 : lenSl (.sl nb 0 k.size cn) = some k.size := rfl
  have wks : wr .u64 k.s = (k.S : Int) := by rw [hks]; exact wru64 (by omega) (by omega)
  simp only [S.withyref07_List, Option.bind_some, ld1_get', ldN_get', get_new', ldNB_cells, Nat.zero_add, Nat.reduceAdd, Nat.reduceLeDiff, asI_int, asB_bool, List.length_cons, List.length_nil, Bool.not_true, decide_true, if_true, List.take_succ_cons, List.take_zero, List.drop_zero, W_call, hR, e0, hls, hls2, i3, l3, htm]
  refine loop_ev (α := List Nat × List Nat × Int × V) (fun y => S.withyref07_List_c1_E (.sl b 0 k.size c) (.ptr h.next 0) y.2.2.2 (.int .u64 y.2.2.1))
    (fun y g => l = y.1 ++ y.2.1 ∧ ChainL k f y.2.2.1 y.2.1 ∧ Fr [] h g ∧ g.get h.next = some (.cells [.int .i64 k.s, .int .i64 k.a, .int .i64 k.c, .int .i64 k.hd, .int .i64 k.g, .int .i64 k.st] .rw) ∧ Grown g.get y.2.2.2 1 ((natI y.1).map (.int .i64)) ∧ ∀ c ∈ y.2.2.2.blk, h.next < c) (fun y _ => y.2.1.length)
    (fun r => ∃ x, r.1 = .exit 0 ∧ r.2.1 = S.withyref07_List_c1_O x ∧ Fr [] h r.2.2 ∧ RowN .i64 r.2.2.get x (natI l) ∧ ∀ c ∈ x.blk, h.next ≤ c)
    ([], l, f .top % 65536, .nilsl) rfl ⟨rfl, hc, Fh, hc0, .nil _ _, by simp [V.blk]⟩ ?_ ?_
  rotate_left
  · rintro ⟨_, _, g⟩ ⟨x, rfl, rfl, F, G, hx⟩
    show Ev (S.withyref07_List_K2 W (.exit 0) _ _) _
    rw [S.withyref07_List_c1_e0_eq]
    exact Ev.some ⟨F, G, hx⟩
  rintro ⟨pr, rest, now, x⟩ g ⟨hpr, hch, F, hcg, G, hx⟩
  dsimp only at hpr hch F hcg G hx ⊢
  rw [S.withyref07_List_c1_eq]
  cases rest with
  | nil =>
    have hn : now = 0 := hch
    subst hn
    have d1 : decide ((1 : Int) ≤ 0) = false := rfl
    simp only [S.withyref07_List_c1_S, d1]
    rw [List.append_nil] at hpr
    exact Ev.some (.inr ⟨by simp, x, rfl, rfl, F, by rw [hpr]; exact grown_row G, fun c hc => Nat.le_of_lt (hx c hc)⟩)
  | cons q rest =>
    obtain ⟨rfl, hq, hch⟩ := hch
    obtain ⟨d1, d2, wq⟩ := l7_q hq hbd.1.2
    have hlen : pr.length < k.S := by
      have := congrArg List.length hpr
      rw [List.length_append, List.length_cons] at this
      omega
    have hxl := G.len1
    rw [List.length_map, natI_len] at hxl
    have d3 : decide ((pr.length : Int) < k.s) = true := by rw [hks]; exact natlt hlen
    have okg := F.ok
    have hlok : (Wd.link q).ok k := hq
    have hat := at_wd hr hlok
    rw [hv] at hat
    have hat' : ∀ h, C 108 [.agg [.int .i64 k.s, .int .i64 k.a, .int .i64 k.c, .int .i64 k.hd, .int .i64 k.g, .int .i64 k.st], .agg [.str ⟨⟨[108, 105, 110, 107]⟩⟩, .int .i64 (q : Int), .int .i64 0]] h = some (.int .i64 ((Wd.link q).pos k : Nat), h) := hat
    have hix := words_ix (b := b) (c := c) hlok
    have Fa : Fr [] g (g.new (.cells [.int .i64 (q : Int)] .rw)) := (Fr.refl okg).new _
    obtain ⟨x', g', e', F', G', hn', _⟩ := Grown.push Fa.ok (bytes := 8) (G.fr okg Fa (by simp)) (get_new_self g _) rfl rfl (by decide) ⟨by decide, by decide⟩ (by rw [List.length_map, natI_len]; omega)
    have Fg : Fr x.blk g g' := (Fa.mono (by simp)).trans' F'
    have Fhg : Fr [] h g' := F.trans Fg fun c hc => .inr (Nat.le_of_lt (hx c hc))
    have hcl := okg.lt hcg
    have hcg' := Fg.get okg hcg (fun hm => Nat.lt_irrefl _ (hx _ hm))
    have hld := (Z.fr ok Fhg (by simp)).ld hlok
    generalize hN : (q : Int) + 1 = nw at d1 d2 wq
    simp only [S.withyref07_List_c1_S, ptrAt_ptr, Option.bind_some, ld1_get', ldN_get', ldB_cells, ldNB_cells, List.getElem?_cons_zero, Nat.zero_add, Nat.add_zero, Nat.reduceAdd, Nat.reduceLeDiff, V.one, asI_int, asIAny, List.length_cons, List.length_nil, decide_true, List.take_succ_cons, List.take_zero, List.drop_zero, W_call, d1, hcg, wks, d2, hxl, d3, wq, e', hcg', hat', hix, hld]
    refine Ev.some (.inl ⟨(pr ++ [q], rest, f (.link q), x'), rfl, rfl, ⟨by rw [hpr]; simp, hch, Fhg, hcg', ?_, fun c hc => ?_⟩, Nat.lt_succ_self _⟩)
    · rw [natI_snoc, List.map_append]; exact G'
    · have h1 := Nat.le_trans (Nat.le_trans hcl Fa.le) (hn' c hc)
      exact h1
end Wm
end

section
/- The memory that the laws of layer 9 begin with: withylaw09.filled. -/
namespace Wm
attribute [local congr] bind_congr1
attribute [local irreducible] wr

theorem hdrs6 (l : List Hdr) : ∀ x ∈ l.map Hdr.cs, x.length = 6 := fun x hx => by
  obtain ⟨_, _, rfl⟩ := List.mem_map.mp hx; rfl
theorem mem0_U64 {k : Cfg} (hr : k.R = true) (w : Wd) : U64 (mem0 k w) := by
  have hb := Cfg.R_iff.mp hr
  cases w <;> simp only [mem0, U64] <;> (try split) <;> omega
theorem row_U64 {k : Cfg} {f : Wd → Int} (h : ∀ l, U64 (f l)) : ∀ w ∈ k.row f, U64 w := fun w hw => by
  obtain ⟨l, _, rfl⟩ := List.mem_map.mp hw; exact h l
theorem graysN_le (k : Cfg) (f : Wd → Int) : graysN k f ≤ k.S := by
  unfold graysN
  have := List.length_filter_le (fun q => grayW (f (.header q))) (List.range k.S)
  rwa [List.length_range] at this
theorem row_splice {ws : List Int} {p : Nat} (hp : p < ws.length) {kd : Go.IntKind} {v : Int} : (ws.map (V.int kd)).take p ++ [V.int kd v] ++ (ws.map (V.int kd)).drop (p + 1) = (ws.set p v).map (V.int kd) := by
  rw [List.map_set, List.set_eq_take_append_cons_drop, if_pos (by rw [List.length_map]; exact hp), List.append_assoc]; rfl

end Wm
end

section
/- What arguments are, as lists of typed things. -/
namespace Wm

theorem chunks {α : Type} {P : List V → Prop} {enc : α → List V} {Q : α → Prop} {z : Nat} (hP : ∀ c, P c → ∃ y, c = enc y ∧ Q y) :
    ∀ (n : Nat) (cs : List V), cs.length = n * z → (∀ i, i < n → P ((cs.drop (i * z)).take z)) → ∃ ys : List α, cs = (ys.map enc).flatten ∧ ys.length = n ∧ ∀ y ∈ ys, Q y
  | 0, cs, hl, _ => ⟨[], by simpa using hl, rfl, by simp⟩
  | n + 1, cs, hl, h => by
    obtain ⟨y, hy, qy⟩ := hP _ (h 0 (by omega))
    have hl2 : (cs.drop z).length = n * z := by rw [List.length_drop, hl, Nat.add_mul]; omega
    obtain ⟨ys, h1, h2, h3⟩ := chunks hP n (cs.drop z) hl2 (fun i hi => by
      have := h (i + 1) (by omega)
      rw [Nat.add_mul, Nat.one_mul, Nat.add_comm (i * z) z, ← List.drop_drop] at this
      exact this)
    refine ⟨y :: ys, ?_, by simp [h2], fun x hx => ?_⟩
    · rw [List.map_cons, List.flatten_cons, ← h1, ← hy, Nat.zero_mul, List.drop_zero, List.take_append_drop]
    · rcases List.mem_cons.mp hx with rfl | hx
      · exact qy
      · exact h3 x hx

theorem flat_ones {α β : Type} (f : α → β) (l : List α) : (l.map fun m => [f m]).flatten = l.map f := by
  induction l with
  | nil => rfl
  | cons x l ih => simp only [List.map_cons, List.flatten_cons, ih, List.cons_append, List.nil_append]

theorem rowN_of {g : Nat → Option Blk} {kd : Go.IntKind} {by' : Nat} {v : V} (h : CellOk g (.sl by' [.int kd]) v) :
    ∃ ws, RowN kd g v ws ∧ (∀ w ∈ ws, (Go.Lit.int kd w).wf = true) ∧ ws.length * by' ≤ 140737488351232 ∧ ws.length ≤ Go.maxLen := by
  unfold CellOk at h
  rcases h with rfl | ⟨b, n, cs, rfl, ⟨h1, h2⟩, h3, h4, h5⟩
  · exact ⟨[], .inl ⟨rfl, rfl⟩, by simp, by simp, by simp⟩
  · obtain ⟨ws, e1, e2, e3⟩ := chunks (α := Int) (enc := fun m => [V.int kd m]) (Q := fun w => (Go.Lit.int kd w).wf = true) (P := CellsOk g [.int kd]) (fun c hc => by
      obtain ⟨v, vs, rfl, ⟨m, rfl, hm⟩, h⟩ := hc
      unfold CellsOk at h
      subst h
      exact ⟨m, rfl, hm⟩) n cs h4 h5
    have e4 : cs = ws.map (.int kd) := by
      rw [e1]; exact flat_ones _ ws
    subst e2
    exact ⟨ws, .inr ⟨b, _, .ro, rfl, by rw [h3, e4]⟩, e3, h2, h1⟩

theorem wf_i64 {n : Int} (h : (Go.Lit.int .i64 n).wf = true) : -9223372036854775808 ≤ n ∧ n ≤ 9223372036854775807 := by
  simpa [Go.Lit.wf, Go.IntKind.min, Go.IntKind.max, Go.IntKind.signed, Go.IntKind.bits] using h
theorem wf_u64 {n : Int} (h : (Go.Lit.int .u64 n).wf = true) : U64 n := by
  have : 0 ≤ n ∧ n ≤ 18446744073709551615 := by simpa [Go.Lit.wf, Go.IntKind.min, Go.IntKind.max, Go.IntKind.signed, Go.IntKind.bits] using h
  exact ⟨this.1, by omega⟩

end Wm
end

section
/- Slots as the laws of heaps take them: headers, and words of bodies. -/
namespace Wm
attribute [local congr] bind_congr1
attribute [local irreducible] wr

structure Slt where
  head : Hdr
  v : V
  body : List Int
def Slt.cs (s : Slt) : List V := s.head.cs ++ [s.v]
def slotSh : List CSh := [.int .i64, .int .i64, .bool, .int .i64, .int .i64, .int .i64, .sl 8 [.int .u64]]
structure RowS (g : Nat → Option Blk) (x : V) (l : List Slt) : Prop where
  row : (x = .nilsl ∧ l = []) ∨ ∃ b c k, x = .sl b 0 l.length c ∧ g b = some (.cells (l.map Slt.cs).flatten k)
  body : ∀ s ∈ l, RowN .u64 g s.v s.body
theorem slt7 (l : List Slt) : ∀ x ∈ l.map Slt.cs, x.length = 7 := fun x hx => by
  obtain ⟨_, _, rfl⟩ := List.mem_map.mp hx; rfl
theorem RowS.len {g : Nat → Option Blk} {x : V} {l : List Slt} (h : RowS g x l) : lenSl x = some l.length := by
  obtain ⟨rfl, rfl⟩ | ⟨b, c, k, rfl, _⟩ := h.row <;> rfl
theorem RowN.one {kd : Go.IntKind} {g : Nat → Option Blk} {x : V} {ws : List Int} (h : RowN kd g x ws) : x.one = true := by
  obtain ⟨rfl, _⟩ | ⟨b, c, k, rfl, _⟩ := h <;> rfl
theorem RowS.fr {g g' : H} {x : V} {l : List Slt} (h : RowS g.get x l) (ok : g.ok) (F : Fr [] g g') : RowS g'.get x l := by
  refine ⟨?_, fun s hs => (h.body s hs).fr ok F (by simp)⟩
  obtain h1 | ⟨b, c, k, rfl, hb⟩ := h.row
  · exact .inl h1
  · exact .inr ⟨b, c, k, rfl, F.get ok hb (by simp)⟩
theorem RowS.at {g : H} {x : V} {l : List Slt} (h : RowS g.get x l) (ok : g.ok) {i : Nat} {y : Slt} (hy : l[i]? = some y) :
    ∃ b, indexAV 7 x (.int .i64 (i : Int)) = some (.ptr b (i * 7)) ∧ ldNB (g.get b) (i * 7) 6 = some (.agg y.head.cs) ∧ ldB (g.get b) (i * 7 + 6) = some y.v ∧ b < g.next := by
  have hi := lt_of_get hy
  obtain ⟨rfl, rfl⟩ | ⟨b, c, k, rfl, hb⟩ := h.row
  · simp at hy
  · have hn : (l.map Slt.cs).flatten.length = l.length * 7 := by rw [flat_length (slt7 l), List.length_map]
    have hp := flat_part (slt7 l) i y.cs (by rw [List.getElem?_map, hy]; rfl)
    have at' : ∀ j, j < 7 → (l.map Slt.cs).flatten[i * 7 + j]? = y.cs[j]? := fun j hj => by
      rw [← hp, List.getElem?_take, if_pos hj, List.getElem?_drop]
    have h6 : ((l.map Slt.cs).flatten.drop (i * 7)).take 6 = y.head.cs := by
      have : ((l.map Slt.cs).flatten.drop (i * 7)).take 6 = (((l.map Slt.cs).flatten.drop (i * 7)).take 7).take 6 := by rw [List.take_take]; rfl
      rw [this, hp]; rfl
    have hone := (h.body y (List.mem_of_getElem? hy)).one
    refine ⟨b, sl_idx hi, ?_, ?_, ok.lt hb⟩
    · rw [hb, ldNB_cells, decide_eq_true (by rw [hn]; omega), h6]
    · rw [hb, ldB_cells, at' 6 (by decide)]
      show (match y.v.one with | true => some y.v | false => none) = _
      rw [hone]
structure Slt.okS (s : Slt) : Prop where
  head : s.head.i64
  body : ∀ w ∈ s.body, U64 w
theorem rowS_of {g : Nat → Option Blk} {by' : Nat} {v : V} (h : CellOk g (.sl by' slotSh) v) :
    ∃ l, RowS g v l ∧ (∀ y ∈ l, y.okS) ∧ l.length * by' ≤ 140737488351232 ∧ l.length ≤ Go.maxLen := by
  unfold CellOk at h
  rcases h with rfl | ⟨b, n, cs, rfl, ⟨h1, h2⟩, h3, h4, h5⟩
  · exact ⟨[], ⟨.inl ⟨rfl, rfl⟩, by simp⟩, by simp, by simp, by simp⟩
  · obtain ⟨ws, e1, e2, e3⟩ := chunks (α := Slt) (enc := Slt.cs) (Q := fun s => s.okS ∧ RowN .u64 g s.v s.body) (P := CellsOk g slotSh) (fun c hc => by
      obtain ⟨_, _, rfl, ⟨y0, rfl, b0⟩, _, _, rfl, ⟨y1, rfl, b1⟩, _, _, rfl, ⟨y2, rfl⟩, _, _, rfl, ⟨y3, rfl, b3⟩, _, _, rfl, ⟨y4, rfl, b4⟩, _, _, rfl, ⟨y5, rfl, b5⟩, x6, _, rfl, h6, rfl⟩ := hc
      obtain ⟨bs, r1, r2, _, _⟩ := rowN_of h6
      exact ⟨⟨⟨y0, y1, y2, y3, y4, y5⟩, x6, bs⟩, rfl, ⟨⟨(wf_i64 b0).2, (wf_i64 b1).2, (wf_i64 b3).2, (wf_i64 b4).2, (wf_i64 b5).2⟩, fun w hw => wf_u64 (r2 w hw)⟩, r1⟩) n cs h4 h5
    subst e2
    exact ⟨ws, ⟨.inr ⟨b, _, .ro, rfl, by rw [h3, e1]⟩, fun s hs => (e3 s hs).2⟩, fun s hs => (e3 s hs).1, h2, h1⟩

/-! ### What is laid -/
def hdL (l : List Slt) (q : Nat) : Hdr := match l[q]? with
  | some y => if y.head.right then y.head else Hdr.zero
  | none => Hdr.zero
def bodyL (l : List Slt) (q i : Nat) : Int := match l[q]? with
  | some y => if y.head.right then (y.body[i]?).getD 0 else 0
  | none => 0
/-- The first slot that is free, from one on. -/
def topG (l : List Slt) : Nat → Nat → Int
  | _, 0 => 0
  | n, d + 1 => if (hdL l n).kind = 0 then (n : Int) + 1 else topG l (n + 1) d
def topL (k : Cfg) (l : List Slt) (n : Nat) : Int := topG l n (k.S - n)
theorem topL_S (k : Cfg) (l : List Slt) : topL k l k.S = 0 := by unfold topL; rw [Nat.sub_self]; rfl
theorem topL_at {k : Cfg} (l : List Slt) {n : Nat} (h : n < k.S) : topL k l n = if (hdL l n).kind = 0 then (n : Int) + 1 else topL k l (n + 1) := by
  unfold topL
  rw [show k.S - n = (k.S - (n + 1)) + 1 by omega]
  rfl
theorem topG_bd (l : List Slt) : ∀ (d n : Nat), 0 ≤ topG l n d ∧ topG l n d ≤ ((n + d : Nat) : Int)
  | 0, n => ⟨Int.le_refl 0, by show (0 : Int) ≤ _; omega⟩
  | d + 1, n => by
    have := topG_bd l d (n + 1)
    unfold topG
    split <;> omega
theorem topL_bd (k : Cfg) (l : List Slt) {n : Nat} (h : n ≤ k.S) : 0 ≤ topL k l n ∧ topL k l n ≤ k.S := by
  have := topG_bd l (k.S - n) n
  unfold topL
  rw [show n + (k.S - n) = k.S by omega] at this
  exact this
theorem zero_right : Hdr.zero.right = true := by decide
theorem hdL_right (l : List Slt) (q : Nat) : (hdL l q).right = true := by
  unfold hdL
  split
  · split
    · assumption
    · exact zero_right
  · exact zero_right
theorem bodyL_U64 {l : List Slt} (h : ∀ y ∈ l, y.okS) (q i : Nat) : U64 (bodyL l q i) := by
  have z : U64 0 := ⟨by decide, by decide⟩
  unfold bodyL
  split
  · rename_i y hy
    split
    · cases hb : y.body[i]? with
      | none => exact z
      | some w => exact (h y (List.mem_of_getElem? hy)).body w (List.mem_of_getElem? hb)
    · exact z
  · exact z
/-- The words when the slots from one on are laid. -/
def laidS (k : Cfg) (l : List Slt) (j : Nat) : Wd → Int
  | .header q => if j ≤ q then (hdL l q).word else 0
  | .body q i => if j ≤ q then bodyL l q i else 0
  | .link q => if j ≤ q ∧ (hdL l q).kind = 0 then topL k l (q + 1) else mem0 k (.link q)
  | w => mem0 k w
theorem laidS_top {k : Cfg} (l : List Slt) : k.row (laidS k l k.S) = k.row (mem0 k) := by
  apply row_congr
  intro w hw
  cases w with
  | header q => have hq : q < k.S := hw; simp only [laidS, mem0]; rw [if_neg (Nat.not_le_of_lt hq)]
  | body q i => have hq : q < k.S := hw.1; simp only [laidS, mem0]; rw [if_neg (Nat.not_le_of_lt hq)]
  | link q => have hq : q < k.S := hw; simp only [laidS]; rw [if_neg (fun h => Nat.not_le_of_lt hq h.1)]
  | _ => rfl
/-- The words of one body, so many of them. -/
def bodyI (f : Wd → Int) (s : Nat) (b : List Int) (n : Nat) : Wd → Int
  | .body q i => if q = s ∧ i < n then (b[i]?).getD 0 else f (.body q i)
  | w => f w
theorem bodyI_zero (f : Wd → Int) (s : Nat) (b : List Int) : bodyI f s b 0 = f := by
  funext w; cases w <;> simp [bodyI]
theorem bodyI_succ {k : Cfg} (f : Wd → Int) {s n : Nat} {b : List Int} {v : Int} (hs : s < k.S) (hn : n < k.room) (hv : b[n]? = some v) : (k.row (bodyI f s b n)).set ((Wd.body s n).pos k) v = k.row (bodyI f s b (n + 1)) := by
  rw [row_set (show (Wd.body s n).ok k from ⟨hs, hn⟩)]
  apply row_congr
  intro w _
  unfold wset
  cases w with
  | body q i =>
    simp only [bodyI, Wd.body.injEq]
    by_cases h1 : q = s ∧ i = n
    · obtain ⟨rfl, rfl⟩ := h1
      rw [if_pos ⟨rfl, rfl⟩, if_pos ⟨rfl, Nat.lt_succ_self _⟩, hv]; rfl
    · rw [if_neg h1]
      by_cases h2 : q = s ∧ i < n
      · rw [if_pos h2, if_pos ⟨h2.1, Nat.lt_succ_of_lt h2.2⟩]
      · rw [if_neg h2, if_neg (fun h => by
          rcases Nat.lt_succ_iff_lt_or_eq.mp h.2 with h3 | h3
          · exact h2 ⟨h.1, h3⟩
          · exact h1 ⟨h.1, h3⟩)]
  | _ => rfl
/-- One slot more: its body is laid, then its header, then its link. -/
theorem laidS_step {k : Cfg} {l : List Slt} {s n : Nat} (hs : s < k.S) {b : List Int} (hb : ∀ i, i < k.room → bodyL l s i = if i < n then (b[i]?).getD 0 else 0) :
    k.row (laidS k l s) = k.row (if (hdL l s).kind = 0 then wset (wset (bodyI (laidS k l (s + 1)) s b n) (.header s) (hdL l s).word) (.link s) (topL k l (s + 1)) else wset (bodyI (laidS k l (s + 1)) s b n) (.header s) (hdL l s).word) := by
  apply row_congr
  intro w hw
  have key : ∀ w, w.ok k → (∀ q, w ≠ .link q) → laidS k l s w = wset (bodyI (laidS k l (s + 1)) s b n) (.header s) (hdL l s).word w := by
    intro w hw hl
    unfold wset
    cases w with
    | header q =>
      simp only [laidS, bodyI, Wd.header.injEq]
      by_cases h1 : q = s
      · subst h1; rw [if_pos (Nat.le_refl _), if_pos rfl]
      · rw [if_neg h1]
        by_cases h2 : s ≤ q
        · rw [if_pos h2, if_pos (by omega)]
        · rw [if_neg h2, if_neg (by omega)]
    | body q i =>
      have hi : i < k.room := hw.2
      simp only [laidS, bodyI, reduceCtorEq, if_false]
      by_cases h1 : q = s
      · subst h1
        rw [if_pos (Nat.le_refl _), hb i hi]
        by_cases h2 : i < n
        · rw [if_pos h2, if_pos ⟨rfl, h2⟩]
        · rw [if_neg h2, if_neg (fun h => h2 h.2), if_neg (Nat.not_succ_le_self q)]
      · rw [if_neg (fun h : q = s ∧ i < n => h1 h.1)]
        by_cases h2 : s ≤ q
        · rw [if_pos h2, if_pos (by omega)]
        · rw [if_neg h2, if_neg (by omega)]
    | link q => exact absurd rfl (hl q)
    | _ => rfl
  cases w with
  | link q =>
    by_cases hk : (hdL l s).kind = 0
    · rw [if_pos hk]
      unfold wset
      simp only [laidS, bodyI, Wd.link.injEq, reduceCtorEq, if_false]
      by_cases h1 : q = s
      · subst h1; rw [if_pos ⟨Nat.le_refl _, hk⟩, if_pos rfl]
      · rw [if_neg h1]
        by_cases h2 : s ≤ q
        · by_cases h3 : (hdL l q).kind = 0
          · rw [if_pos ⟨h2, h3⟩, if_pos ⟨by omega, h3⟩]
          · rw [if_neg (fun h => h3 h.2), if_neg (fun h => h3 h.2)]
        · rw [if_neg (fun h => h2 h.1), if_neg (fun h => h2 (by omega))]
    · rw [if_neg hk]
      unfold wset
      simp only [laidS, bodyI, reduceCtorEq, if_false]
      by_cases h1 : q = s
      · subst h1; rw [if_neg (fun h => hk h.2), if_neg (fun h => Nat.not_succ_le_self q h.1)]
      · by_cases h2 : s ≤ q
        · by_cases h3 : (hdL l q).kind = 0
          · rw [if_pos ⟨h2, h3⟩, if_pos ⟨by omega, h3⟩]
          · rw [if_neg (fun h => h3 h.2), if_neg (fun h => h3 h.2)]
        · rw [if_neg (fun h => h2 h.1), if_neg (fun h => h2 (by omega))]
  | header q =>
    rw [key _ hw (by simp)]
    split
    · exact (wset_ne (by simp)).symm
    · rfl
  | body q i =>
    rw [key _ hw (by simp)]
    split
    · exact (wset_ne (by simp)).symm
    · rfl
  | clock => rw [key _ hw (by simp)]; split; exact (wset_ne (by simp)).symm; rfl
  | epoch => rw [key _ hw (by simp)]; split; exact (wset_ne (by simp)).symm; rfl
  | grays => rw [key _ hw (by simp)]; split; exact (wset_ne (by simp)).symm; rfl
  | top => rw [key _ hw (by simp)]; split; exact (wset_ne (by simp)).symm; rfl
  | pin q => rw [key _ hw (by simp)]; split; exact (wset_ne (by simp)).symm; rfl
  | entry q i => rw [key _ hw (by simp)]; split; exact (wset_ne (by simp)).symm; rfl
  | view q => rw [key _ hw (by simp)]; split; exact (wset_ne (by simp)).symm; rfl
  | start q => rw [key _ hw (by simp)]; split; exact (wset_ne (by simp)).symm; rfl
end Wm
end

section
/- Heaps that are laid by the document: withyref13.Laid. -/
namespace Wm
attribute [local congr] bind_congr1
attribute [local irreducible] wr

def cfgB (k : Cfg) : Blk := .cells [.int .i64 k.s, .int .i64 k.a, .int .i64 k.c, .int .i64 k.hd, .int .i64 k.g, .int .i64 k.st] .rw
/-- What stands where while a heap is laid. -/
structure LdAt (k : Cfg) (h g : H) (cb bw : Nat) (f : Wd → Int) : Prop where
  fr : Fr [] h g
  cfg : g.get cb = some (cfgB k)
  row : g.get bw = some (.cells ((k.row f).map (.int .u64)) .rw)
  ncb : h.next ≤ cb
  nbw : h.next ≤ bw
  ne : cb ≠ bw
theorem LdAt.fr' {k : Cfg} {h g g' : H} {cb bw : Nat} {f : Wd → Int} (Z : LdAt k h g cb bw f) (F : Fr [] g g') : LdAt k h g' cb bw f :=
  ⟨Z.fr.trans' F, F.get Z.fr.ok Z.cfg (by simp), F.get Z.fr.ok Z.row (by simp), Z.ncb, Z.nbw, Z.ne⟩
theorem LdAt.set {k : Cfg} {h g : H} {cb bw : Nat} {f : Wd → Int} (Z : LdAt k h g cb bw f) {l : Wd} (hl : l.ok k) {v : Int} {cs : List V} (hcs : cs = ((k.row f).map (V.int .u64)).take (l.pos k) ++ [.int .u64 v] ++ ((k.row f).map (V.int .u64)).drop (l.pos k + 1)) : LdAt k h (g.put bw (some (.cells cs .rw))) cb bw (wset f l v) := by
  have ok := Z.fr.ok
  have hbl := ok.lt Z.row
  refine ⟨Z.fr.put (.inr Z.nbw) hbl _, by rw [get_put_ne Z.ne]; exact Z.cfg, ?_, Z.ncb, Z.nbw, Z.ne⟩
  rw [get_put_self, hcs, row_splice (by rw [row_length]; exact pos_lt hl), row_set hl]
theorem LdAt.row_eq {k : Cfg} {h g : H} {cb bw : Nat} {f f' : Wd → Int} (Z : LdAt k h g cb bw f) (e : k.row f = k.row f') : LdAt k h g cb bw f' :=
  ⟨Z.fr, Z.cfg, e ▸ Z.row, Z.ncb, Z.nbw, Z.ne⟩
/-- A store into the words. -/
theorem LdAt.le {k : Cfg} {f : Wd → Int} {l : Wd} (hl : l.ok k) : decide (l.pos k + 1 ≤ ((k.row f).map (V.int .u64)).length) = true := decide_eq_true (by rw [List.length_map, row_length]; exact pos_lt hl)

theorem ld_i {i : Nat} (h : i < 1000) : wr .i64 ((i : Int) + 1) = ((i + 1 : Nat) : Int) := by rw [wr64 (by omega) (by omega)]; rfl
theorem room_int {k : Cfg} (hr : k.R = true) : (if k.a < 3 then 3 else k.a) = (k.room : Int) := by
  have := Cfg.R_iff.mp hr
  unfold Cfg.room; split <;> omega
theorem ld_lt (i n : Nat) : decide ((i : Int) < (n : Int)) = decide (i < n) := by congr 1; apply propext; omega

/-- A body is laid. -/
theorem laid_body {k : Cfg} (hr : k.R = true) {h : H} (ok : h.ok) {x1 x2 x3 : V} {l : List Slt} (hx : RowS h.get x1 l) (hu : ∀ y ∈ l, y.okS) {s : Nat} (hs : s < k.S) {y : Slt} (hy : l[s]? = some y) {cb bw hb : Nat} {f : Wd → Int} {top : Int} {g0 : H} (Z0 : LdAt k h g0 cb bw f)
    (K : AX × List V × H → Option (AX × List V × H)) (R : AX × List V × H → Prop)
    (hK : ∀ (n : Nat) (g : H), (n = k.room ∨ n = y.body.length) → n ≤ k.room → Fr [bw] g0 g → LdAt k h g cb bw (bodyI f s y.body n) →
      Ev (K (.exit 2, S.withyref13_Laid_c4_O x1 x2 x3 (.ptr cb 0) (.sl bw 0 k.size (.ex k.size)) (.int .u64 top) (.int .i64 (s : Nat)) (.ptr hb 0), g)) R) :
    Ev ((W.loop (S.withyref13_Laid_c4_B W) (S.withyref13_Laid_c4_E x1 x2 x3 (.ptr cb 0) (.sl bw 0 k.size (.ex k.size)) (.int .u64 top) (.int .i64 (s : Nat)) (.ptr hb 0) (.int .i64 0)) g0).bind K) R := by
  have hbd := Cfg.bounds hr
  refine loop_ev (α := Nat) (fun i => S.withyref13_Laid_c4_E x1 x2 x3 (.ptr cb 0) (.sl bw 0 k.size (.ex k.size)) (.int .u64 top) (.int .i64 (s : Nat)) (.ptr hb 0) (.int .i64 (i : Nat)))
    (fun i g => i ≤ k.room ∧ i ≤ y.body.length ∧ Fr [bw] g0 g ∧ LdAt k h g cb bw (bodyI f s y.body i)) (fun i _ => k.room - i)
    (fun r => ∃ n, r.1 = .exit 2 ∧ r.2.1 = S.withyref13_Laid_c4_O x1 x2 x3 (.ptr cb 0) (.sl bw 0 k.size (.ex k.size)) (.int .u64 top) (.int .i64 (s : Nat)) (.ptr hb 0) ∧ (n = k.room ∨ n = y.body.length) ∧ n ≤ k.room ∧ Fr [bw] g0 r.2.2 ∧ LdAt k h r.2.2 cb bw (bodyI f s y.body n))
    0 rfl ⟨Nat.zero_le _, Nat.zero_le _, .refl Z0.fr.ok, by rw [bodyI_zero]; exact Z0⟩ ?_ ?_
  rotate_left
  · rintro ⟨_, _, g⟩ ⟨n, rfl, rfl, h1, h2, F, Z⟩
    exact hK n g h1 h2 F Z
  rintro i g ⟨hi, hib, F, Z⟩
  rw [S.withyref13_Laid_c4_eq]
  have hv : k.v = .agg [.int .i64 k.s, .int .i64 k.a, .int .i64 k.c, .int .i64 k.hd, .int .i64 k.g, .int .i64 k.st] := rfl
  have hcfg := Z.cfg
  unfold cfgB at hcfg
  have hroom := fun h => refRoom_spec k.s k.a k.c k.hd k.g k.st h
  unfold cfgV at hroom
  rw [room_int hr] at hroom
  have d1 := ld_lt i k.room
  by_cases hik : i < k.room
  rotate_left
  · rw [decide_eq_false hik] at d1
    simp only [S.withyref13_Laid_c4_S, Option.bind_some, ldN_get', ldNB_cells, Nat.zero_add, Nat.reduceAdd, Nat.reduceLeDiff, asI_int, List.length_cons, List.length_nil, decide_true, List.take_succ_cons, List.take_zero, List.drop_zero, W_call, hcfg, hroom, d1]
    exact Ev.some (.inr ⟨by simp, i, rfl, rfl, .inl (Nat.le_antisymm hi (Nat.le_of_not_lt hik)), hi, F, Z⟩)
  rw [decide_eq_true hik] at d1
  obtain ⟨xb, e1, _, e3, _⟩ := (hx.fr ok Z.fr).at Z.fr.ok hy
  have hB := (hx.body y (List.mem_of_getElem? hy)).fr ok Z.fr (by simp)
  have hBl := hB.len
  have d2 := ld_lt i y.body.length
  by_cases hil : i < y.body.length
  rotate_left
  · rw [decide_eq_false hil] at d2
    simp only [S.withyref13_Laid_c4_S, ptrAt_ptr, Option.bind_some, ld1_get', ldN_get', ldNB_cells, Nat.zero_add, Nat.reduceAdd, Nat.reduceLeDiff, asI_int, List.length_cons, List.length_nil, decide_true, List.take_succ_cons, List.take_zero, List.drop_zero, W_call, hcfg, hroom, d1, e1, e3, hBl, d2]
    exact Ev.some (.inr ⟨by simp, i, rfl, rfl, .inr (Nat.le_antisymm hib (Nat.le_of_not_lt hil)), hi, F, Z⟩)
  rw [decide_eq_true hil] at d2
  obtain ⟨v, hvi⟩ : ∃ v, y.body[i]? = some v := ⟨_, List.getElem?_eq_getElem hil⟩
  obtain ⟨vb, f1, f2⟩ := hB.at hvi
  have hbok : (Wd.body s i).ok k := ⟨hs, hik⟩
  have hat := at_wd hr hbok
  rw [hv] at hat
  have hat' : ∀ h, C 108 [.agg [.int .i64 k.s, .int .i64 k.a, .int .i64 k.c, .int .i64 k.hd, .int .i64 k.g, .int .i64 k.st], .agg [.str ⟨⟨[98, 111, 100, 121]⟩⟩, .int .i64 (s : Int), .int .i64 (i : Int)]] h = some (.int .i64 ((Wd.body s i).pos k : Nat), h) := hat
  have hix : indexAV 1 (.sl bw 0 k.size (.ex k.size)) (.int .i64 ((Wd.body s i).pos k : Nat)) = some (.ptr bw ((Wd.body s i).pos k)) := sl_idx1 (pos_lt hbok)
  have hrow := Z.row
  have hle := LdAt.le (f := bodyI f s y.body i) hbok
  have hne0 : decide (Bk.rw = Bk.ro) = false := rfl
  have wi := ld_i (i := i) (Nat.lt_of_lt_of_le hik (Nat.le_trans hbd.2.1.2 (by decide)))
  have hvb : V.beq y.v y.v = true := by
    rcases hB with ⟨h1, _⟩ | ⟨b, c, kk, h1, _⟩
    · rw [h1]; rfl
    · rw [h1]; simp [V.beq]
  have Z1 := Z.set (v := v) hbok rfl
  simp only [ld1_get'] at f2
  generalize hcs : ((k.row (bodyI f s y.body i)).map (V.int .u64)).take ((Wd.body s i).pos k) ++ [.int .u64 v] ++ ((k.row (bodyI f s y.body i)).map (V.int .u64)).drop ((Wd.body s i).pos k + 1) = cs at Z1
  simp only [S.withyref13_Laid_c4_S, ptrAt_ptr, Option.bind_some, Option.map_some, ld1_get', ldN_get', st_get', ldNB_cells, stB_cells, Nat.zero_add, Nat.reduceAdd, Nat.reduceLeDiff, V.one, V.cells, V.beq, ckB_some, asI_int, List.length_cons, List.length_nil, Nat.beq_refl, List.all_cons, List.all_nil, Bool.not_true, Bool.or_self, Bool.and_self, decide_true, decide_false, splice, List.take_succ_cons, List.take_zero, List.drop_zero, reduceCtorEq, W_call, hcfg, hroom, d1, e1, e3, hBl, d2, f1, f2, hat', hvb, hix, hrow, hle, hcs, wi]
  have Z2 := Z1.row_eq (f' := bodyI f s y.body (i + 1)) (by rw [← row_set hbok]; exact bodyI_succ f hs hik hvi)
  exact Ev.some (.inl ⟨i + 1, rfl, rfl, ⟨hik, hil, F.put (.inl (by simp)) (Z.fr.ok.lt Z.row) _, Z2⟩, Nat.sub_lt_sub_left hik (Nat.lt_succ_self i)⟩)

theorem ld_s {s S : Nat} (h : s < S) (h64 : S ≤ 64) : decide ((0 : Int) ≤ (s : Int)) = true ∧ wr .u64 (wr .i64 ((s : Int) + 1)) = (s : Int) + 1 ∧ wr .i64 ((s : Int) - 1) = (s : Int) - 1 := by
  refine ⟨decide_eq_true (by omega), ?_, wr64 (by omega) (by omega)⟩
  rw [wr64 (n := (s : Int) + 1) (by omega) (by omega), wru64 (by omega) (by omega)]
theorem hdL_none {l : List Slt} {s : Nat} (h : l[s]? = none) : hdL l s = Hdr.zero ∧ ∀ i, bodyL l s i = 0 := by
  unfold hdL bodyL; rw [h]; exact ⟨rfl, fun _ => rfl⟩
theorem hdL_wrong {l : List Slt} {s : Nat} {y : Slt} (h : l[s]? = some y) (hr : y.head.right = false) : hdL l s = Hdr.zero ∧ ∀ i, bodyL l s i = 0 := by
  unfold hdL bodyL; rw [h]; simp only [hr]; exact ⟨rfl, fun _ => rfl⟩
theorem hdL_right' {l : List Slt} {s : Nat} {y : Slt} (h : l[s]? = some y) (hr : y.head.right = true) : hdL l s = y.head ∧ ∀ i, bodyL l s i = (y.body[i]?).getD 0 := by
  unfold hdL bodyL; rw [h]; simp only [hr, if_true]; exact ⟨trivial, fun _ => trivial⟩

section
variable {k : Cfg} (hr : k.R = true) {h : H} (ok : h.ok) {x1 x2 x3 : V} {l : List Slt} (hx : RowS h.get x1 l) (hu : ∀ y ∈ l, y.okS)
include hr ok hx hu
/-- A slot is laid. -/
theorem laid_slot {s : Nat} (hs : s < k.S) {cb bw : Nat} {g : H} (Z : LdAt k h g cb bw (laidS k l (s + 1))) :
    Ev (S.withyref13_Laid_c1_S W x1 x2 x3 (.ptr cb 0) (.sl bw 0 k.size (.ex k.size)) (topL k l (s + 1)) (s : Nat) g) fun r => r.1 = .normal ∧ r.2.1 = S.withyref13_Laid_c1_E x1 x2 x3 (.ptr cb 0) (.sl bw 0 k.size (.ex k.size)) (.int .u64 (topL k l s)) (.int .i64 ((s : Int) - 1)) ∧ LdAt k h r.2.2 cb bw (laidS k l s) := by
  have hbd := Cfg.bounds hr
  obtain ⟨d0, ws1, ws2⟩ := ld_s hs hbd.1.2
  have hv : k.v = .agg [.int .i64 k.s, .int .i64 k.a, .int .i64 k.c, .int .i64 k.hd, .int .i64 k.g, .int .i64 k.st] := rfl
  have hhok : (Wd.header s).ok k := hs
  have hlok : (Wd.link s).ok k := hs
  have hat := at_wd hr hhok
  have hal := at_wd hr hlok
  rw [hv] at hat hal
  have hat' : ∀ h, C 108 [.agg [.int .i64 k.s, .int .i64 k.a, .int .i64 k.c, .int .i64 k.hd, .int .i64 k.g, .int .i64 k.st], .agg [.str ⟨⟨[104, 101, 97, 100, 101, 114]⟩⟩, .int .i64 (s : Int), .int .i64 0]] h = some (.int .i64 ((Wd.header s).pos k : Nat), h) := hat
  have hal' : ∀ h, C 108 [.agg [.int .i64 k.s, .int .i64 k.a, .int .i64 k.c, .int .i64 k.hd, .int .i64 k.g, .int .i64 k.st], .agg [.str ⟨⟨[108, 105, 110, 107]⟩⟩, .int .i64 (s : Int), .int .i64 0]] h = some (.int .i64 ((Wd.link s).pos k : Nat), h) := hal
  have hix : indexAV 1 (.sl bw 0 k.size (.ex k.size)) (.int .i64 ((Wd.header s).pos k : Nat)) = some (.ptr bw ((Wd.header s).pos k)) := sl_idx1 (pos_lt hhok)
  have hil : indexAV 1 (.sl bw 0 k.size (.ex k.size)) (.int .i64 ((Wd.link s).pos k : Nat)) = some (.ptr bw ((Wd.link s).pos k)) := sl_idx1 (pos_lt hlok)
  have hne0 : decide (Bk.rw = Bk.ro) = false := rfl
  have ok0 := Z.fr.ok
  have hcl := ok0.lt Z.cfg
  have hbl := ok0.lt Z.row
  have ncn : cb ≠ g.next := Nat.ne_of_lt hcl
  have nbn : bw ≠ g.next := Nat.ne_of_lt hbl
  have ncb := Z.ne
  have htop := topL_at l hs
  have hle1 : ∀ f, decide ((Wd.header s).pos k + 1 ≤ ((k.row f).map (V.int .u64)).length) = true := fun f => LdAt.le hhok
  have hle2 : ∀ f, decide ((Wd.link s).pos k + 1 ≤ ((k.row f).map (V.int .u64)).length) = true := fun f => LdAt.le hlok
  have hsp1 : ∀ f v, ((k.row f).map (V.int .u64)).take ((Wd.header s).pos k) ++ [.int .u64 v] ++ ((k.row f).map (V.int .u64)).drop ((Wd.header s).pos k + 1) = (k.row (wset f (.header s) v)).map (V.int .u64) := fun f v => by
    rw [row_splice (by rw [row_length]; exact pos_lt hhok), row_set hhok]
  have hsp2 : ∀ f v, ((k.row f).map (V.int .u64)).take ((Wd.link s).pos k) ++ [.int .u64 v] ++ ((k.row f).map (V.int .u64)).drop ((Wd.link s).pos k + 1) = (k.row (wset f (.link s) v)).map (V.int .u64) := fun f v => by
    rw [row_splice (by rw [row_length]; exact pos_lt hlok), row_set hlok]
  have hxl := hx.len
  have d1 := ld_lt s l.length
  -- a slot that is nothing
  have nothing : hdL l s = Hdr.zero → (∀ i, bodyL l s i = 0) → k.row (wset (wset (laidS k l (s + 1)) (.header s) Hdr.zero.word) (.link s) (topL k l (s + 1))) = k.row (laidS k l s) ∧ topL k l s = (s : Int) + 1 := fun hz hb => by
    have e := laidS_step (k := k) (l := l) (n := 0) hs (b := []) (fun i _ => by rw [hb i, if_neg (Nat.not_lt_zero i)])
    rw [hz, if_pos (show Hdr.zero.kind = 0 from rfl), bodyI_zero] at e
    refine ⟨e.symm, ?_⟩
    rw [htop, hz, if_pos (show Hdr.zero.kind = 0 from rfl)]
  have Zn : ∀ (b1 b2 : _) (f' : Wd → Int), k.row f' = k.row (laidS k l s) → LdAt k h ((((g.new b1).put g.next b2)).put bw (some (.cells ((k.row f').map (.int .u64)) .rw))) cb bw (laidS k l s) := fun b1 b2 f' e => by
    refine ⟨(((Z.fr.new _).put (.inr Z.fr.le) (Nat.lt_succ_self _) _).put (.inr Z.nbw) (Nat.lt_succ_of_lt hbl) _), ?_, by rw [get_put_self, e], Z.ncb, Z.nbw, Z.ne⟩
    rw [get_put_ne ncb, get_put_ne ncn, get_new_ne ncn]; exact Z.cfg
  have hcfg := Z.cfg
  have hrow := Z.row
  unfold cfgB at hcfg
  have hPz := fun h => refPack_spec (x := Hdr.zero) zero_right h
  simp only [Hdr.cs, Hdr.zero] at hPz
  by_cases hsl : s < l.length
  rotate_left
  · rw [decide_eq_false hsl] at d1
    obtain ⟨hz, hb⟩ := hdL_none (List.getElem?_eq_none (Nat.le_of_not_lt hsl) : l[s]? = none)
    obtain ⟨e, ht⟩ := nothing hz hb
    simp only [Hdr.zero] at e
    simp only [S.withyref13_Laid_c1_S, Option.bind_some, Option.map_some, ld1_get', ldN_get', st_get', get_put', get_new', put_put', ldB_cells, ldNB_cells, stB_cells, List.getElem?_cons_zero, Nat.zero_add, Nat.reduceAdd, Nat.reduceLeDiff, V.one, V.cells, V.beq, V.beqs, ckB_some, asI_int, List.length_cons, List.length_nil, Nat.beq_refl, List.all_cons, List.all_nil, Bool.not_true, Bool.or_self, Bool.and_self, decide_true, decide_false, if_true, if_false, splice, List.take_succ_cons, List.take_zero, List.drop_succ_cons, List.drop_zero, List.cons_append, List.nil_append, reduceCtorEq, W_call, d0, hxl, d1, hcfg, ncn, ncb, nbn, nbn.symm, hat', hPz, hix, hrow, hle1, hsp1, hal', hil, hle2, hsp2, ws1, ws2, BEq.rfl]
    exact Ev.some ⟨rfl, by rw [ht], Zn _ _ _ e⟩
  rw [decide_eq_true hsl] at d1
  obtain ⟨y, hy⟩ : ∃ y, l[s]? = some y := ⟨_, List.getElem?_eq_getElem hsl⟩
  obtain ⟨xb, e1, e2, _, hxbl⟩ := (hx.fr ok Z.fr).at ok0 hy
  have nxn : xb ≠ g.next := Nat.ne_of_lt hxbl
  have hRt := fun h => refRight_spec y.head h
  cases hyr : y.head.right with
  | false =>
    rw [hyr] at hRt
    obtain ⟨hz, hb⟩ := hdL_wrong hy hyr
    obtain ⟨e, ht⟩ := nothing hz hb
    simp only [Hdr.zero] at e
    simp only [S.withyref13_Laid_c1_S, ptrAt_ptr, Option.bind_some, Option.map_some, ld1_get', ldN_get', st_get', get_put', get_new', put_put', ldB_cells, ldNB_cells, stB_cells, List.getElem?_cons_zero, Nat.zero_add, Nat.add_zero, Nat.reduceAdd, Nat.reduceLeDiff, V.one, V.cells, V.beq, V.beqs, ckB_some, asI_int, asB_bool, List.length_cons, List.length_nil, Nat.beq_refl, List.all_cons, List.all_nil, Bool.not_true, Bool.false_or, Bool.or_self, Bool.and_self, decide_true, decide_false, if_true, if_false, splice, List.take_succ_cons, List.take_zero, List.drop_succ_cons, List.drop_zero, List.cons_append, List.nil_append, reduceCtorEq, W_call, d0, hxl, d1, e1, e2, nxn, hRt, hcfg, ncn, ncb, nbn, nbn.symm, hat', hPz, hix, hrow, hle1, hsp1, hal', hil, hle2, hsp2, ws1, ws2, BEq.rfl]
    exact Ev.some ⟨rfl, by rw [ht], Zn _ _ _ e⟩
  | true =>
    rw [hyr] at hRt
    obtain ⟨hz, hb⟩ := hdL_right' hy hyr
    have hPk := fun h => refPack_spec hyr h
    have hkk : y.head.cs = [.int .i64 y.head.kind, .int .i64 y.head.mark, .bool y.head.gray, .int .i64 y.head.arity, .int .i64 y.head.gen, .int .i64 y.head.stamp] := rfl
    rw [hkk] at e2 hRt hPk
    simp only [S.withyref13_Laid_c1_S, ptrAt_ptr, Option.bind_some, Option.map_some, ld1_get', ldN_get', st_get', get_put', get_new', put_put', ldNB_cells, stB_cells, Nat.zero_add, Nat.add_zero, Nat.reduceAdd, Nat.reduceLeDiff, V.one, V.cells, asB_bool, List.length_cons, List.length_nil, Nat.beq_refl, List.all_cons, List.all_nil, Bool.not_true, Bool.or_self, Bool.and_self, decide_true, decide_false, if_true, if_false, splice, List.take_succ_cons, List.take_zero, List.drop_succ_cons, List.drop_zero, List.cons_append, List.nil_append, reduceCtorEq, W_call, d0, hxl, d1, e1, e2, nxn, hRt]
    have F1 : Fr [] g ((g.new (.cells [.int .i64 0, .int .i64 0, .bool false, .int .i64 0, .int .i64 0, .int .i64 0] .rw)).put g.next (some (.cells [.int .i64 y.head.kind, .int .i64 y.head.mark, .bool y.head.gray, .int .i64 y.head.arity, .int .i64 y.head.gen, .int .i64 y.head.stamp] .rw))) := ((Fr.refl ok0).new _).put (.inr (Nat.le_refl _)) (Nat.lt_succ_self _) _
    refine laid_body hr ok hx hu hs hy (Z.fr' F1) _ _ ?_
    intro n g2 hn hnr F2 Z2
    show Ev (S.withyref13_Laid_K7 W (.exit 2) _ g2) _
    rw [S.withyref13_Laid_c4_e2_eq]
    have hown := F2.get F1.ok (get_put_self _ _ _) (by simp [nbn.symm])
    have hcfg2 := Z2.cfg
    have hrow2 := Z2.row
    have ok2 := F2.ok
    have hcl2 := ok2.lt hcfg2
    have hbl2 := ok2.lt hrow2
    unfold cfgB at hcfg2
    have e := laidS_step (k := k) (l := l) (n := n) hs (b := y.body) (fun i hi => by
      rw [hb i]
      by_cases h1 : i < n
      · rw [if_pos h1]
      · rw [if_neg h1]
        rcases hn with h2 | h2
        · exact absurd (h2 ▸ hi) h1
        · rw [List.getElem?_eq_none (by rw [← h2]; exact Nat.le_of_not_lt h1)]; rfl)
    rw [hz] at e htop
    by_cases hk0 : y.head.kind = 0
    · rw [if_pos hk0] at e htop
      have dk : decide (y.head.kind = 0) = true := decide_eq_true hk0
      simp only [S.withyref13_Laid_c4_e2, ptrAt_ptr, Option.bind_some, Option.map_some, ld1_get', ldN_get', st_get', get_put', put_put', ldB_cells, ldNB_cells, stB_cells, List.getElem?_cons_zero, Nat.zero_add, Nat.add_zero, Nat.reduceAdd, Nat.reduceLeDiff, V.one, V.cells, V.beq, V.beqs, ckB_some, asI_int, List.length_cons, List.length_nil, Nat.beq_refl, List.all_cons, List.all_nil, Bool.not_true, Bool.or_self, Bool.and_self, decide_true, decide_false, if_true, if_false, splice, List.take_succ_cons, List.take_zero, List.drop_zero, reduceCtorEq, W_call, hcfg2, hown, nbn.symm, hat', hPk, hix, hrow2, hle1, hsp1, ncb, dk, hal', hil, hle2, hsp2, ws1, ws2, BEq.rfl]
      refine Ev.some ⟨rfl, by rw [htop], ⟨Z2.fr.put (.inr Z.nbw) hbl2 _, by rw [get_put_ne ncb]; exact Z2.cfg, by rw [get_put_self, e], Z.ncb, Z.nbw, Z.ne⟩⟩
    · rw [if_neg hk0] at e htop
      have dk : decide (y.head.kind = 0) = false := decide_eq_false hk0
      simp only [S.withyref13_Laid_c4_e2, ptrAt_ptr, Option.bind_some, Option.map_some, ld1_get', ldN_get', st_get', get_put', ldB_cells, ldNB_cells, stB_cells, List.getElem?_cons_zero, Nat.zero_add, Nat.add_zero, Nat.reduceAdd, Nat.reduceLeDiff, V.one, V.cells, V.beq, V.beqs, ckB_some, asI_int, List.length_cons, List.length_nil, Nat.beq_refl, List.all_cons, List.all_nil, Bool.not_true, Bool.or_self, Bool.and_self, decide_true, decide_false, if_false, splice, List.take_succ_cons, List.take_zero, List.drop_zero, reduceCtorEq, W_call, hcfg2, hown, nbn.symm, hat', hPk, hix, hrow2, hle1, hsp1, dk, ws2, BEq.rfl]
      refine Ev.some ⟨rfl, by rw [htop], ⟨Z2.fr.put (.inr Z.nbw) hbl2 _, by rw [get_put_ne ncb]; exact Z2.cfg, by rw [get_put_self, e], Z.ncb, Z.nbw, Z.ne⟩⟩
end

/-! ### Roots, views, grays -/
def rootW (k : Cfg) (j : Nat) : Wd := if j / k.C < k.H then .entry (j % k.C) (j / k.C) else .start (j % k.C)
def rootsF (k : Cfg) (f : Wd → Int) (roots : List Int) : Nat → Wd → Int
  | 0 => f
  | n + 1 => wset (rootsF k f roots n) (rootW k n) ((roots[n]?).getD 0 % 20)
def viewsF (f : Wd → Int) (views : List Int) : Nat → Wd → Int
  | 0 => f
  | n + 1 => wset (viewsF f views n) (.view n) ((views[n]?).getD 0)
def laidT (k : Cfg) (l : List Slt) : Wd → Int := wset (laidS k l 0) .top (topL k l 0)
def laidV (k : Cfg) (l : List Slt) (roots views : List Int) : Wd → Int := viewsF (rootsF k (laidT k l) roots (min roots.length (k.C * (k.H + 1)))) views (min views.length k.C)
/-- The words of a heap that is laid. -/
def laidW (k : Cfg) (l : List Slt) (roots views : List Int) : Wd → Int := wset (laidV k l roots views) .grays (graysN k (laidV k l roots views) : Nat)

theorem laidS_U64 {k : Cfg} (hr : k.R = true) {l : List Slt} (hu : ∀ y ∈ l, y.okS) (j : Nat) (w : Wd) : U64 (laidS k l j w) := by
  have z : U64 0 := ⟨by decide, by decide⟩
  have hS := (Cfg.bounds hr).1
  cases w with
  | header q =>
    simp only [laidS]; split
    · exact word_U64 (hdL_right l q)
    · exact z
  | body q i =>
    simp only [laidS]; split
    · exact bodyL_U64 hu q i
    · exact z
  | link q =>
    simp only [laidS]; split
    · unfold topL
      have := topG_bd l (k.S - (q + 1)) (q + 1)
      by_cases h : q + 1 ≤ k.S
      · exact ⟨this.1, by omega⟩
      · rw [show k.S - (q + 1) = 0 by omega]; exact z
    · exact mem0_U64 hr (.link q)
  | clock => exact mem0_U64 hr .clock
  | epoch => exact mem0_U64 hr .epoch
  | grays => exact mem0_U64 hr .grays
  | top => exact mem0_U64 hr .top
  | pin q => exact mem0_U64 hr (.pin q)
  | entry q i => exact mem0_U64 hr (.entry q i)
  | view q => exact mem0_U64 hr (.view q)
  | start q => exact mem0_U64 hr (.start q)
theorem wset_U64 {f : Wd → Int} {w0 : Wd} {v : Int} (h : ∀ w, U64 (f w)) (hv : U64 v) (w : Wd) : U64 (wset f w0 v w) := by
  unfold wset; split
  · exact hv
  · exact h w
theorem rootsF_U64 {k : Cfg} {f : Wd → Int} {roots : List Int} (h : ∀ w, U64 (f w)) : ∀ n w, U64 (rootsF k f roots n w)
  | 0, w => h w
  | n + 1, w => wset_U64 (rootsF_U64 h n) ⟨by omega, by omega⟩ w
theorem viewsF_U64 {f : Wd → Int} {views : List Int} (h : ∀ w, U64 (f w)) (hv : ∀ v ∈ views, U64 v) : ∀ n w, U64 (viewsF f views n w)
  | 0, w => h w
  | n + 1, w => wset_U64 (viewsF_U64 h hv n) (by
      cases hn : views[n]? with
      | none => exact ⟨by decide, by decide⟩
      | some v => exact hv v (List.mem_of_getElem? hn)) w
theorem laidV_U64 {k : Cfg} (hr : k.R = true) {l : List Slt} (hu : ∀ y ∈ l, y.okS) {roots views : List Int} (hv : ∀ v ∈ views, U64 v) (w : Wd) : U64 (laidV k l roots views w) := by
  unfold laidV
  refine viewsF_U64 (rootsF_U64 (fun w => ?_) _) hv _ w
  have hb := topL_bd k l (Nat.zero_le k.S)
  have hS := (Cfg.bounds hr).1
  exact wset_U64 (laidS_U64 hr hu 0) ⟨hb.1, by omega⟩ w
theorem laidW_U64 {k : Cfg} (hr : k.R = true) {l : List Slt} (hu : ∀ y ∈ l, y.okS) {roots views : List Int} (hv : ∀ v ∈ views, U64 v) (w : Wd) : U64 (laidW k l roots views w) := by
  unfold laidW
  have hS := (Cfg.bounds hr).1
  have := graysN_le k (laidV k l roots views)
  exact wset_U64 (laidV_U64 hr hu hv) ⟨by omega, by omega⟩ w

theorem LdAt.rows {k : Cfg} {h g : H} {cb bw : Nat} {f : Wd → Int} (Z : LdAt k h g cb bw f) {l : Wd} (hl : l.ok k) (v : Int) :
    g.st 1 (.ptr bw (l.pos k)) (.int .u64 v) = some (g.put bw (some (.cells ((k.row (wset f l v)).map (.int .u64)) .rw))) ∧ LdAt k h (g.put bw (some (.cells ((k.row (wset f l v)).map (.int .u64)) .rw))) cb bw (wset f l v) := by
  have hsp : ((k.row f).map (V.int .u64)).take (l.pos k) ++ [.int .u64 v] ++ ((k.row f).map (V.int .u64)).drop (l.pos k + 1) = (k.row (wset f l v)).map (V.int .u64) := by
    rw [row_splice (by rw [row_length]; exact pos_lt hl), row_set hl]
  have h1 := row_st2 (g := g) (b := bw) (ws := k.row f) (kk := .rw) (by decide) Z.row (i := l.pos k) (by rw [row_length]; exact pos_lt hl) v
  refine ⟨?_, Z.set hl hsp.symm⟩
  rw [h1, row_set hl]

theorem ld_j {j C : Nat} (hC : 1 ≤ C) (h8 : C ≤ 8) (hj : j < 1000) : arith .rem .i64 (j : Int) (C : Int) = some ((j % C : Nat) : Int) ∧ arith .quo .i64 (j : Int) (C : Int) = some ((j / C : Nat) : Int) := by
  have h0 : decide ((C : Int) = 0) = false := decide_eq_false (by omega)
  have e1 : Int.tmod (j : Int) (C : Int) = ((j % C : Nat) : Int) := by rw [Int.tmod_eq_emod_of_nonneg (by omega)]; rfl
  have e2 : Int.tdiv (j : Int) (C : Int) = ((j / C : Nat) : Int) := by rw [Int.tdiv_eq_ediv_of_nonneg (by omega)]; rfl
  have l1 := Nat.mod_lt j hC
  have l2 := Nat.div_le_self j C
  refine ⟨by simp only [arith, h0, e1], ?_⟩
  simp only [arith, h0, e2]
  generalize j / C = d at l2 ⊢
  rw [wr64 (by omega) (by omega)]
theorem ld_mul {C H : Nat} (hC : C ≤ 8) (hH : H ≤ 16) : wr .i64 ((C : Int) * (wr .i64 ((H : Int) + 1))) = ((C * (H + 1) : Nat) : Int) := by
  have h1 : C * (H + 1) ≤ 8 * 17 := Nat.mul_le_mul hC (by omega)
  rw [wr64 (n := (H : Int) + 1) (by omega) (by omega)]
  have h2 : (C : Int) * ((H : Int) + 1) = ((C * (H + 1) : Nat) : Int) := by rw [Int.natCast_mul]; rfl
  rw [h2, wr64 (by omega) (by omega)]

theorem LdAt.stB {k : Cfg} {h g : H} {cb bw : Nat} {f : Wd → Int} (Z : LdAt k h g cb bw f) {l : Wd} (hl : l.ok k) (v : Int) :
    stB (g.get bw) (l.pos k) [.int .u64 v] = some (.cells ((k.row (wset f l v)).map (.int .u64)) .rw) := by
  have hne0 : decide (Bk.rw = Bk.ro) = false := rfl
  have hsp : ((k.row f).map (V.int .u64)).take (l.pos k) ++ [.int .u64 v] ++ ((k.row f).map (V.int .u64)).drop (l.pos k + 1) = (k.row (wset f l v)).map (V.int .u64) := by
    rw [row_splice (by rw [row_length]; exact pos_lt hl), row_set hl]
  have hle := LdAt.le (f := f) hl
  have hone : [V.int .u64 v].all V.one = true := rfl
  have hlen : [V.int .u64 v].length = 1 := rfl
  rw [Z.row, stB_cells, hlen, hle, hone, hne0]
  show some (Blk.cells (splice _ _ _) _) = _
  unfold splice
  rw [hlen, hsp]
theorem LdAt.ix {k : Cfg} {bw : Nat} {l : Wd} (hl : l.ok k) : indexAV 1 (.sl bw 0 k.size (.ex k.size)) (.int .i64 (l.pos k : Nat)) = some (.ptr bw (l.pos k)) := sl_idx1 (pos_lt hl)
theorem LdAt.put {k : Cfg} {h g : H} {cb bw : Nat} {f : Wd → Int} (Z : LdAt k h g cb bw f) {l : Wd} (hl : l.ok k) (v : Int) :
    LdAt k h (g.put bw (some (.cells ((k.row (wset f l v)).map (.int .u64)) .rw))) cb bw (wset f l v) := (Z.rows hl v).2

/-- One root. -/
theorem laid_root {k : Cfg} (hr : k.R = true) (hH : k.hd = (k.H : Int)) {h : H} {x2 x3 : V} {cb bw : Nat} {f : Wd → Int} {g : H} (Z : LdAt k h g cb bw f) {i n v : Int} {p q L : Nat} (hl : lenSl x2 = some L)
    (d1 : decide (i < (L : Int)) = true) (hm : wr .i64 (k.c * (wr .i64 (k.hd + 1))) = n) (d2 : decide (i < n) = true) (ar : arith .rem .i64 i k.c = some (p : Int)) (aq : arith .quo .i64 i k.c = some (q : Int))
    (hpC : p < k.C) {vb vo : Nat} (f1 : indexAV 1 x2 (.int .i64 i) = some (.ptr vb vo)) (f2 : ldB (g.get vb) vo = some (.int .u64 v)) (hv0 : 0 ≤ v) {i' : Int} (wi : wr .i64 (i + 1) = i') :
    Ev (S.withyref13_Laid_c6_S W x2 x3 (.ptr cb 0) (.sl bw 0 k.size (.ex k.size)) i g) fun r => r.1 = .normal ∧ r.2.1 = S.withyref13_Laid_c6_E x2 x3 (.ptr cb 0) (.sl bw 0 k.size (.ex k.size)) (.int .i64 i') ∧ LdAt k h r.2.2 cb bw (wset f (if q < k.H then .entry p q else .start p) (v % 20)) := by
  have hcfg := Z.cfg
  unfold cfgB at hcfg
  have hv : k.v = .agg [.int .i64 k.s, .int .i64 k.a, .int .i64 k.c, .int .i64 k.hd, .int .i64 k.g, .int .i64 k.st] := rfl
  have htm : Int.tmod v 20 = v % 20 := tm hv0
  by_cases hq : q < k.H
  · have d3 : decide ((q : Int) < k.hd) = true := by rw [hH]; exact decide_eq_true (Int.ofNat_lt.mpr hq)
    have hwok : (Wd.entry p q).ok k := ⟨hpC, hq⟩
    have hat := at_wd hr hwok
    rw [hv] at hat
    have hat' : ∀ h, C 108 [.agg [.int .i64 k.s, .int .i64 k.a, .int .i64 k.c, .int .i64 k.hd, .int .i64 k.g, .int .i64 k.st], .agg [.str ⟨⟨[101, 110, 116, 114, 121]⟩⟩, .int .i64 (p : Int), .int .i64 (q : Int)]] h = some (.int .i64 ((Wd.entry p q).pos k : Nat), h) := hat
    have hix := LdAt.ix (bw := bw) hwok
    have hst := Z.stB hwok (v % 20)
    rw [if_pos hq]
    have Z1 := Z.put hwok (v % 20)
    simp only [S.withyref13_Laid_c6_S, ptrAt_ptr, Option.bind_some, Option.map_some, ld1_get', ldN_get', st_get', ldB_cells, ldNB_cells, List.getElem?_cons_zero, List.getElem?_cons_succ, Nat.zero_add, Nat.reduceAdd, Nat.reduceLeDiff, V.one, V.cells, V.beq, ckB_some, asI_int, List.length_cons, List.length_nil, Nat.beq_refl, Bool.and_self, decide_true, List.take_succ_cons, List.take_zero, List.drop_zero, W_call, hl, d1, hcfg, hm, d2, ar, aq, d3, f1, f2, hat', hix, hst, htm, wi]
    exact Ev.some ⟨rfl, rfl, Z1⟩
  · have d3 : decide ((q : Int) < k.hd) = false := by rw [hH]; exact decide_eq_false (fun h => hq (Int.ofNat_lt.mp h))
    have hwok : (Wd.start p).ok k := hpC
    have hat := at_wd hr hwok
    rw [hv] at hat
    have hat' : ∀ h, C 108 [.agg [.int .i64 k.s, .int .i64 k.a, .int .i64 k.c, .int .i64 k.hd, .int .i64 k.g, .int .i64 k.st], .agg [.str ⟨⟨[115, 116, 97, 114, 116]⟩⟩, .int .i64 (p : Int), .int .i64 0]] h = some (.int .i64 ((Wd.start p).pos k : Nat), h) := hat
    have hix := LdAt.ix (bw := bw) hwok
    have hst := Z.stB hwok (v % 20)
    rw [if_neg hq]
    have Z1 := Z.put hwok (v % 20)
    simp only [S.withyref13_Laid_c6_S, ptrAt_ptr, Option.bind_some, Option.map_some, ld1_get', ldN_get', st_get', ldB_cells, ldNB_cells, List.getElem?_cons_zero, List.getElem?_cons_succ, Nat.zero_add, Nat.reduceAdd, Nat.reduceLeDiff, V.one, V.cells, V.beq, ckB_some, asI_int, List.length_cons, List.length_nil, Nat.beq_refl, Bool.and_self, decide_true, List.take_succ_cons, List.take_zero, List.drop_zero, W_call, hl, d1, hcfg, hm, d2, ar, aq, d3, f1, f2, hat', hix, hst, htm, wi]
    exact Ev.some ⟨rfl, rfl, Z1⟩

theorem laid_root_end {k : Cfg} {h : H} {x2 x3 : V} {cb bw : Nat} {f : Wd → Int} {g : H} (Z : LdAt k h g cb bw f) {i n : Int} {L : Nat} (hl : lenSl x2 = some L) (hm : wr .i64 (k.c * (wr .i64 (k.hd + 1))) = n)
    (d : decide (i < (L : Int)) = false ∨ (decide (i < (L : Int)) = true ∧ decide (i < n) = false)) :
    S.withyref13_Laid_c6_S W x2 x3 (.ptr cb 0) (.sl bw 0 k.size (.ex k.size)) i g = some (.exit 4, S.withyref13_Laid_c6_O x3 (.ptr cb 0) (.sl bw 0 k.size (.ex k.size)), g) := by
  have hcfg := Z.cfg
  unfold cfgB at hcfg
  rcases d with d1 | ⟨d1, d2⟩
  · simp only [S.withyref13_Laid_c6_S, Option.bind_some, hl, d1]
  · simp only [S.withyref13_Laid_c6_S, ptrAt_ptr, Option.bind_some, ld1_get', ldN_get', ldB_cells, ldNB_cells, List.getElem?_cons_zero, List.getElem?_cons_succ, Nat.zero_add, Nat.reduceAdd, Nat.reduceLeDiff, V.one, asI_int, List.length_cons, List.length_nil, decide_true, List.take_succ_cons, List.take_zero, List.drop_zero, W_call, hl, d1, hcfg, hm, d2]

section
variable {k : Cfg} (hr : k.R = true) {h : H} (ok : h.ok) {x2 x3 : V} {roots views : List Int}
include hr ok
/-- The roots are laid. -/
theorem laid_roots (hx2 : RowN .u64 h.get x2 roots) (hu : ∀ w ∈ roots, U64 w) {cb bw : Nat} {f : Wd → Int} {g0 : H} (Z0 : LdAt k h g0 cb bw f)
    (K : AX × List V × H → Option (V × H)) (R : V × H → Prop)
    (hK : ∀ g : H, LdAt k h g cb bw (rootsF k f roots (min roots.length (k.C * (k.H + 1)))) → Ev (K (.exit 4, S.withyref13_Laid_c6_O x3 (.ptr cb 0) (.sl bw 0 k.size (.ex k.size)), g)) R) :
    Ev ((W.loop (S.withyref13_Laid_c6_B W) (S.withyref13_Laid_c6_E x2 x3 (.ptr cb 0) (.sl bw 0 k.size (.ex k.size)) (.int .i64 0)) g0).bind K) R := by
  have hbd := Cfg.bounds hr
  have hR := Cfg.R_iff.mp hr
  have hc : k.c = (k.C : Int) := by unfold Cfg.C; omega
  have hh : k.hd = (k.H : Int) := by unfold Cfg.H; omega
  have hmul : wr .i64 (k.c * (wr .i64 (k.hd + 1))) = ((k.C * (k.H + 1) : Nat) : Int) := by rw [hc, hh]; exact ld_mul hbd.2.2.1.2 hbd.2.2.2.1.2
  have hmx : k.C * (k.H + 1) ≤ 8 * 17 := Nat.mul_le_mul hbd.2.2.1.2 (Nat.succ_le_succ hbd.2.2.2.1.2)
  generalize hN : k.C * (k.H + 1) = N at hmul hmx hK
  refine loop_ev (α := Nat) (fun i => S.withyref13_Laid_c6_E x2 x3 (.ptr cb 0) (.sl bw 0 k.size (.ex k.size)) (.int .i64 (i : Nat)))
    (fun i g => i ≤ roots.length ∧ i ≤ N ∧ LdAt k h g cb bw (rootsF k f roots i)) (fun i _ => roots.length - i)
    (fun r => r.1 = .exit 4 ∧ r.2.1 = S.withyref13_Laid_c6_O x3 (.ptr cb 0) (.sl bw 0 k.size (.ex k.size)) ∧ LdAt k h r.2.2 cb bw (rootsF k f roots (min roots.length N)))
    0 rfl ⟨Nat.zero_le _, Nat.zero_le _, Z0⟩ ?_ ?_
  rotate_left
  · rintro ⟨_, _, g⟩ ⟨rfl, rfl, Z⟩
    exact hK g Z
  rintro i g ⟨hi, him, Z⟩
  rw [S.withyref13_Laid_c6_eq]
  have hl := (hx2.fr ok Z.fr (by simp) : RowN .u64 g.get x2 roots).len
  have d1 := ld_lt i roots.length
  by_cases hil : i < roots.length
  rotate_left
  · rw [decide_eq_false hil] at d1
    rw [laid_root_end Z hl hmul (.inl d1)]
    have e : min roots.length N = i := by clear d1 hmul; omega
    exact Ev.some (.inr ⟨by simp, rfl, rfl, by rw [e]; exact Z⟩)
  rw [decide_eq_true hil] at d1
  have d2 := ld_lt i N
  by_cases himl : i < N
  rotate_left
  · rw [decide_eq_false himl] at d2
    rw [laid_root_end Z hl hmul (.inr ⟨d1, d2⟩)]
    have e : min roots.length N = i := by clear d1 d2 hmul; omega
    exact Ev.some (.inr ⟨by simp, rfl, rfl, by rw [e]; exact Z⟩)
  rw [decide_eq_true himl] at d2
  have hi1000 : i < 1000 := Nat.lt_of_lt_of_le himl (Nat.le_trans hmx (by decide))
  obtain ⟨ar, aq⟩ := ld_j hbd.2.2.1.1 hbd.2.2.1.2 hi1000
  rw [← hc] at ar aq
  obtain ⟨v, hvi⟩ : ∃ v, roots[i]? = some v := ⟨_, List.getElem?_eq_getElem hil⟩
  have hvu := hu v (List.mem_of_getElem? hvi)
  obtain ⟨vb, f1, f2⟩ := (hx2.fr ok Z.fr (by simp)).at hvi
  have wi := ld_i hi1000
  simp only [ld1_get'] at f2
  refine (laid_root hr hh Z hl d1 hmul d2 ar aq (Nat.mod_lt i hbd.2.2.1.1) f1 f2 hvu.1 wi).mono ?_
  rintro ⟨_, _, g'⟩ ⟨rfl, rfl, Z1⟩
  refine .inl ⟨i + 1, rfl, rfl, ⟨hil, himl, ?_⟩, Nat.sub_lt_sub_left hil (Nat.lt_succ_self i)⟩
  have e : rootsF k f roots (i + 1) = wset (rootsF k f roots i) (if i / k.C < k.H then .entry (i % k.C) (i / k.C) else .start (i % k.C)) (v % 20) := by
    show wset _ (rootW k i) ((roots[i]?).getD 0 % 20) = _
    rw [hvi]; rfl
  rw [e]; exact Z1

/-- The views are laid. -/
theorem laid_views (hx3 : RowN .u64 h.get x3 views) {cb bw : Nat} {f : Wd → Int} {g0 : H} (Z0 : LdAt k h g0 cb bw f)
    (K : AX × List V × H → Option (V × H)) (R : V × H → Prop)
    (hK : ∀ g : H, LdAt k h g cb bw (viewsF f views (min views.length k.C)) → Ev (K (.exit 6, S.withyref13_Laid_c8_O (.ptr cb 0) (.sl bw 0 k.size (.ex k.size)), g)) R) :
    Ev ((W.loop (S.withyref13_Laid_c8_B W) (S.withyref13_Laid_c8_E x3 (.ptr cb 0) (.sl bw 0 k.size (.ex k.size)) (.int .i64 0)) g0).bind K) R := by
  have hbd := Cfg.bounds hr
  have hR := Cfg.R_iff.mp hr
  have hc : k.c = (k.C : Int) := by unfold Cfg.C; omega
  have hv : k.v = .agg [.int .i64 k.s, .int .i64 k.a, .int .i64 k.c, .int .i64 k.hd, .int .i64 k.g, .int .i64 k.st] := rfl
  refine loop_ev (α := Nat) (fun i => S.withyref13_Laid_c8_E x3 (.ptr cb 0) (.sl bw 0 k.size (.ex k.size)) (.int .i64 (i : Nat)))
    (fun i g => i ≤ views.length ∧ i ≤ k.C ∧ LdAt k h g cb bw (viewsF f views i)) (fun i _ => views.length - i)
    (fun r => r.1 = .exit 6 ∧ r.2.1 = S.withyref13_Laid_c8_O (.ptr cb 0) (.sl bw 0 k.size (.ex k.size)) ∧ LdAt k h r.2.2 cb bw (viewsF f views (min views.length k.C)))
    0 rfl ⟨Nat.zero_le _, Nat.zero_le _, Z0⟩ ?_ ?_
  rotate_left
  · rintro ⟨_, _, g⟩ ⟨rfl, rfl, Z⟩
    exact hK g Z
  rintro i g ⟨hi, him, Z⟩
  rw [S.withyref13_Laid_c8_eq]
  have hl := (hx3.fr ok Z.fr (by simp) : RowN .u64 g.get x3 views).len
  have hcfg := Z.cfg
  unfold cfgB at hcfg
  have d1 := ld_lt i views.length
  by_cases hil : i < views.length
  rotate_left
  · rw [decide_eq_false hil] at d1
    have e : min views.length k.C = i := by clear d1; omega
    simp only [S.withyref13_Laid_c8_S, Option.bind_some, hl, d1]
    exact Ev.some (.inr ⟨by simp, rfl, rfl, by rw [e]; exact Z⟩)
  rw [decide_eq_true hil] at d1
  have d2 : decide ((i : Int) < k.c) = decide (i < k.C) := by rw [hc]; exact ld_lt i k.C
  by_cases himl : i < k.C
  rotate_left
  · rw [decide_eq_false himl] at d2
    have e : min views.length k.C = i := by clear d1 d2; omega
    simp only [S.withyref13_Laid_c8_S, ptrAt_ptr, Option.bind_some, ld1_get', ldN_get', ldB_cells, ldNB_cells, List.getElem?_cons_zero, List.getElem?_cons_succ, Nat.zero_add, Nat.reduceAdd, Nat.reduceLeDiff, V.one, asI_int, List.length_cons, List.length_nil, decide_true, List.take_succ_cons, List.take_zero, List.drop_zero, W_call, hl, d1, hcfg, d2]
    exact Ev.some (.inr ⟨by simp, rfl, rfl, by rw [e]; exact Z⟩)
  rw [decide_eq_true himl] at d2
  have hi1000 : i < 1000 := Nat.lt_of_lt_of_le himl (Nat.le_trans hbd.2.2.1.2 (by decide))
  obtain ⟨v, hvi⟩ : ∃ v, views[i]? = some v := ⟨_, List.getElem?_eq_getElem hil⟩
  obtain ⟨vb, f1, f2⟩ := (hx3.fr ok Z.fr (by simp)).at hvi
  have wi := ld_i hi1000
  simp only [ld1_get'] at f2
  have hwok : (Wd.view i).ok k := himl
  have hat := at_wd hr hwok
  rw [hv] at hat
  have hat' : ∀ h, C 108 [.agg [.int .i64 k.s, .int .i64 k.a, .int .i64 k.c, .int .i64 k.hd, .int .i64 k.g, .int .i64 k.st], .agg [.str ⟨⟨[118, 105, 101, 119]⟩⟩, .int .i64 (i : Int), .int .i64 0]] h = some (.int .i64 ((Wd.view i).pos k : Nat), h) := hat
  have hix := LdAt.ix (bw := bw) hwok
  have hst := Z.stB hwok v
  have Z1 := Z.put hwok v
  simp only [S.withyref13_Laid_c8_S, ptrAt_ptr, Option.bind_some, Option.map_some, ld1_get', ldN_get', st_get', ldB_cells, ldNB_cells, List.getElem?_cons_zero, List.getElem?_cons_succ, Nat.zero_add, Nat.reduceAdd, Nat.reduceLeDiff, V.one, V.cells, V.beq, ckB_some, asI_int, List.length_cons, List.length_nil, Nat.beq_refl, Bool.and_self, decide_true, List.take_succ_cons, List.take_zero, List.drop_zero, W_call, hl, d1, hcfg, d2, f1, f2, hat', hix, hst, wi]
  refine Ev.some (.inl ⟨i + 1, rfl, rfl, ⟨hil, himl, ?_⟩, Nat.sub_lt_sub_left hil (Nat.lt_succ_self i)⟩)
  have e : viewsF f views (i + 1) = wset (viewsF f views i) (.view i) v := by
    show wset _ _ ((views[i]?).getD 0) = _
    rw [hvi]; rfl
  rw [e]; exact Z1
end

/-- A heap is laid. -/
theorem laid_spec {k : Cfg} (hr : k.R = true) {h : H} (ok : h.ok) {x1 x2 x3 : V} {l : List Slt} {roots views : List Int} (hx : RowS h.get x1 l) (hu : ∀ y ∈ l, y.okS) (hx2 : RowN .u64 h.get x2 roots) (hu2 : ∀ w ∈ roots, U64 w) (hx3 : RowN .u64 h.get x3 views) (hu3 : ∀ w ∈ views, U64 w) :
    Ev (C 121 [k.v, x1, x2, x3] h) fun r => ∃ b, r.1 = .sl b 0 k.size (.ex k.size) ∧ Fr [] h r.2 ∧ h.next ≤ b ∧ r.2.get b = some (.cells ((k.row (laidW k l roots views)).map (.int .u64)) .rw) := by
  have hbd := Cfg.bounds hr
  refine call_ev (af := F.withyref13_Laid) (by kernel_rfl) rfl ?_
  obtain ⟨g0, bw, e0, f0, n0, n1, w0⟩ := Memory_spec hr (ok.new (.cells k.cs .rw))
  have hv : k.v = .agg [.int .i64 k.s, .int .i64 k.a, .int .i64 k.c, .int .i64 k.hd, .int .i64 k.g, .int .i64 k.st] := rfl
  have hcs : (Blk.cells k.cs .rw) = .cells [.int .i64 k.s, .int .i64 k.a, .int .i64 k.c, .int .i64 k.hd, .int .i64 k.g, .int .i64 k.st] .rw := rfl
  rw [hv, S.withyref13_Laid_eq]
  rw [hv, hcs] at e0
  rw [hcs] at f0
  have hfr0 : Fr [] h g0 := ((Fr.refl ok).new _).trans' f0
  have hcfg : g0.get h.next = some (cfgB k) := f0.get (ok.new _) (get_new_self _ _) (by simp)
  rw [H.next_new] at n0
  have Z0 : LdAt k h g0 h.next bw (laidS k l k.S) := ⟨hfr0, hcfg, by rw [laidS_top]; exact w0, Nat.le_refl _, by omega, by omega⟩
  have hks : k.s = (k.S : Int) := by have := Cfg.R_iff.mp hr; unfold Cfg.S; omega
  have ws : wr .i64 (k.s - 1) = (k.S : Int) - 1 := by rw [hks]; exact wr64 (by omega) (by omega)
  have hcfg' := hcfg
  unfold cfgB at hcfg'
  simp only [S.withyref13_Laid, Option.bind_some, ld1_get', ldN_get', get_new', ldB_cells, ldNB_cells, List.getElem?_cons_zero, Nat.zero_add, Nat.reduceAdd, Nat.reduceLeDiff, V.one, asI_int, List.length_cons, List.length_nil, decide_true, if_true, List.take_succ_cons, List.take_zero, List.drop_zero, W_call, e0, hcfg', ws]
  rw [← topL_S k l]
  refine loop_ev (α := Nat) (fun j => S.withyref13_Laid_c1_E x1 x2 x3 (.ptr h.next 0) (.sl bw 0 k.size (.ex k.size)) (.int .u64 (topL k l j)) (.int .i64 ((j : Int) - 1)))
    (fun j g => j ≤ k.S ∧ LdAt k h g h.next bw (laidS k l j)) (fun j _ => j)
    (fun r => r.1 = .exit 0 ∧ r.2.1 = S.withyref13_Laid_c1_O x2 x3 (.ptr h.next 0) (.sl bw 0 k.size (.ex k.size)) (.int .u64 (topL k l 0)) ∧ LdAt k h r.2.2 h.next bw (laidS k l 0))
    k.S rfl ⟨Nat.le_refl _, Z0⟩ ?_ ?_
  · rintro j g ⟨hj, Z⟩
    rw [S.withyref13_Laid_c1_eq]
    cases j with
    | zero =>
      have d : decide ((0 : Int) ≤ ((0 : Nat) : Int) - 1) = false := rfl
      simp only [S.withyref13_Laid_c1_S, d]
      exact Ev.some (.inr ⟨by simp, rfl, rfl, Z⟩)
    | succ s =>
      have e : ((s + 1 : Nat) : Int) - 1 = (s : Int) := by clear ws; omega
      rw [e]
      refine (laid_slot hr ok hx hu hj Z).mono ?_
      rintro ⟨_, _, g'⟩ ⟨rfl, rfl, Z1⟩
      exact .inl ⟨s, rfl, rfl, ⟨Nat.le_of_lt hj, Z1⟩, Nat.lt_succ_self s⟩
  rintro ⟨_, _, g⟩ ⟨rfl, rfl, Z⟩
  dsimp only at Z ⊢
  rw [S.withyref13_Laid_c1_e0_eq]
  have htok : (Wd.top).ok k := trivial
  have i3 : indexAV 1 (.sl bw 0 k.size (.ex k.size)) (.int .i64 3) = some (.ptr bw 3) := LdAt.ix (l := .top) trivial
  have hst : stB (g.get bw) 3 [.int .u64 (topL k l 0)] = _ := Z.stB (l := .top) htok (topL k l 0)
  simp only [S.withyref13_Laid_c1_e0, Option.bind_some, Option.map_some, st_get', Nat.zero_add, V.cells, List.length_cons, List.length_nil, Nat.beq_refl, i3, hst]
  refine laid_roots hr ok hx2 hu2 (Z.put (l := .top) htok (topL k l 0)) _ _ ?_
  intro g2 Z2
  show Ev (S.withyref13_Laid_K9 W (.exit 4) _ g2) _
  rw [S.withyref13_Laid_c6_e4_eq]
  simp only [S.withyref13_Laid_c6_e4]
  refine laid_views hr ok hx3 Z2 _ _ ?_
  intro g3 Z3
  show Ev (S.withyref13_Laid_K11 W (.exit 6) _ g3) _
  rw [S.withyref13_Laid_c8_e6_eq]
  have Z3 : LdAt k h g3 h.next bw (laidV k l roots views) := Z3
  have hU := fun w => laidV_U64 hr hu (roots := roots) hu3 w
  obtain ⟨⟨v1, g4⟩, e4, rfl, f4⟩ := refGrays13_spec hr Z3.fr.ok (c := .ex k.size) (⟨⟨_, Z3.row⟩, fun w _ => hU w⟩ : WordsAt k g3 bw (laidV k l roots views))
  rw [hv] at e4
  have Z4 := Z3.fr' f4
  have hcfg3 := Z3.cfg
  unfold cfgB at hcfg3
  have i2 : indexAV 1 (.sl bw 0 k.size (.ex k.size)) (.int .i64 2) = some (.ptr bw 2) := LdAt.ix (l := .grays) trivial
  have hgl := graysN_le k (laidV k l roots views)
  have hw : wr .u64 ((graysN k (laidV k l roots views) : Nat) : Int) = (graysN k (laidV k l roots views) : Nat) := wru64 (by omega) (by omega)
  have hst4 : stB (g4.get bw) 2 [.int .u64 ((graysN k (laidV k l roots views) : Nat) : Int)] = _ := Z4.stB (l := .grays) trivial _
  have Z5 := Z4.put (l := .grays) trivial ((graysN k (laidV k l roots views) : Nat) : Int)
  simp only [S.withyref13_Laid_c8_e6, Option.bind_some, Option.map_some, ldN_get', st_get', ldNB_cells, Nat.zero_add, Nat.reduceAdd, Nat.reduceLeDiff, V.cells, asIAny, List.length_cons, List.length_nil, Nat.beq_refl, decide_true, List.take_succ_cons, List.take_zero, List.drop_zero, W_call, hcfg3, e4, asIAny, hw, i2, hst4]
  exact Ev.some ⟨bw, rfl, Z5.fr, Z5.nbw, Z5.row⟩
end Wm
end

section
/- A Reclaim alone. -/
namespace Wm
attribute [local congr] bind_congr1
attribute [local irreducible] wr

abbrev RclSt := Rcl × (Wd → Int) × Int
def rclX (k : Cfg) (x : RclSt) : RclSt := ((x.1.step k x.2.1).1, (x.1.step k x.2.1).2, if x.1.works k then wr .i64 (x.2.2 + 1) else x.2.2)
def rclFin (k : Cfg) (x : RclSt) : Prop := x.1.slot = k.S
instance (k : Cfg) (x : RclSt) : Decidable (rclFin k x) := inferInstanceAs (Decidable (x.1.slot = k.S))

def deadB (k : Cfg) (w : Int) : Bool := decide ((unp (freed w k.g)).kind = 4)
def backB (k : Cfg) (f : Wd → Int) (q : Nat) : Bool := limbo (f (.header q)) && !deadB k (f (.header q))
def goneB (k : Cfg) (f : Wd → Int) (q : Nat) : Bool := limbo (f (.header q)) && deadB k (f (.header q))
def backC (k : Cfg) (f : Wd → Int) (j : Nat) : Nat := ((List.range j).filter (backB k f)).length
def goneC (k : Cfg) (f : Wd → Int) (j : Nat) : Nat := ((List.range j).filter (goneB k f)).length
theorem backC_succ (k : Cfg) (f : Wd → Int) (j : Nat) : backC k f (j + 1) = backC k f j + if backB k f j then 1 else 0 := cnt_succ _ _
theorem goneC_succ (k : Cfg) (f : Wd → Int) (j : Nat) : goneC k f (j + 1) = goneC k f j + if goneB k f j then 1 else 0 := cnt_succ _ _
/-- One slot: what it comes to. -/
def rec1 (k : Cfg) (f : Wd → Int) (q : Nat) : Wd → Int :=
  if limbo (f (.header q)) then
    (if deadB k (f (.header q)) then wset f (.header q) (freed (f (.header q)) k.g)
    else wset (wset (wset f (.header q) (freed (f (.header q)) k.g)) (.link q) (firstT k (f .top) + 1)) .top (movedW (f .top) q))
  else f
def recN (k : Cfg) (f : Wd → Int) : Nat → Wd → Int
  | 0 => f
  | j + 1 => rec1 k (recN k f j) j
theorem rec1_other {k : Cfg} {f : Wd → Int} {q : Nat} {w : Wd} (h1 : w ≠ .header q) (h2 : w ≠ .link q) (h3 : w ≠ .top) : rec1 k f q w = f w := by
  unfold rec1
  split
  · split
    · exact wset_ne h1
    · rw [wset_ne h3, wset_ne h2, wset_ne h1]
  · rfl
theorem rec1_header (k : Cfg) (f : Wd → Int) (q : Nat) : rec1 k f q (.header q) = if limbo (f (.header q)) then freed (f (.header q)) k.g else f (.header q) := by
  unfold rec1
  by_cases h : limbo (f (.header q))
  · rw [if_pos h, if_pos h]
    split
    · exact wset_same _ _ _
    · rw [wset_ne (by simp), wset_ne (by simp), wset_same]
  · rw [if_neg h, if_neg h]
theorem recN_header {k : Cfg} {f : Wd → Int} : ∀ {j q : Nat}, j ≤ q → recN k f j (.header q) = f (.header q)
  | 0, _, _ => rfl
  | j + 1, q, h => by
    show rec1 k (recN k f j) j (.header q) = _
    rw [rec1_other (by simp; omega) (by simp) (by simp), recN_header (by omega)]
theorem recN_done {k : Cfg} {f : Wd → Int} : ∀ {j q : Nat}, q < j → recN k f j (.header q) = if limbo (f (.header q)) then freed (f (.header q)) k.g else f (.header q)
  | 0, _, h => absurd h (Nat.not_lt_zero _)
  | j + 1, q, h => by
    show rec1 k (recN k f j) j (.header q) = _
    by_cases hq : q = j
    · subst hq
      rw [rec1_header, recN_header (Nat.le_refl _)]
    · rw [rec1_other (by simp [hq]) (by simp) (by simp), recN_done (by omega)]
theorem recN_U64 {k : Cfg} {f : Wd → Int} (hr : k.R = true) (hf : ∀ w, U64 (f w)) : ∀ j, j ≤ k.S → ∀ w, U64 (recN k f j w)
  | 0, _, w => hf w
  | j + 1, hj, w => by
    have ih := recN_U64 hr hf j (by omega)
    have hS := (Cfg.bounds hr).1
    show U64 (rec1 k (recN k f j) j w)
    unfold rec1
    split
    · split
      · exact wset_U64 ih (freed_U64 (ih _)) w
      · obtain ⟨b0, b1⟩ := firstT_bd hr (ih .top)
        exact wset_U64 (wset_U64 (wset_U64 ih (freed_U64 (ih _))) ⟨by omega, by omega⟩) (movedW_U64 (by omega) (by omega)) w
    · exact ih w

theorem reclaim_go {k : Cfg} {f : Wd → Int} {Q : RclSt → Prop} (hQ : ∀ n, Q (⟨backC k f k.S, goneC k f k.S, k.S, none⟩, recN k f k.S, n)) :
    ∀ (d j : Nat) (n : Int), j + (d + 1) = k.S → Go (rclX k) (rclFin k) (6 * (d + 1)) (⟨backC k f j, goneC k f j, j, none⟩, recN k f j, n) Q
  | d, j, n, hj => by
    have hne : j ≠ k.S := by omega
    have hb := backC_succ k f j
    have hg := goneC_succ k f j
    have hh : recN k f j (.header j) = f (.header j) := recN_header (Nat.le_refl _)
    have hstep : recN k f (j + 1) = rec1 k (recN k f j) j := rfl
    -- what comes behind the slot
    have fin : ∀ {m : Nat} {x : RclSt} (n' : Int), rclX k x = (⟨backC k f (j + 1), goneC k f (j + 1), j + 1, none⟩, recN k f (j + 1), n') → Go (rclX k) (rclFin k) (6 * d + m + 1) x Q := fun {m x} n' e => by
      by_cases hd : d = 0
      · subst hd
        have hj1 : j + 1 = k.S := hj
        rw [hj1] at e
        exact Go.done _ e rfl (hQ n')
      · obtain ⟨d', rfl⟩ : ∃ d', d = d' + 1 := ⟨d - 1, by omega⟩
        refine Go.next _ e (fun h => by
          have h : j + 1 = k.S := h
          omega) ?_
        exact Go.more m (reclaim_go hQ d' (j + 1) n' (by omega))
    cases hl : limbo (f (.header j)) with
    | false =>
      have e0 : backB k f j = false := by unfold backB; rw [hl]; rfl
      have e1 : goneB k f j = false := by unfold goneB; rw [hl]; rfl
      rw [e0] at hb; rw [e1] at hg
      simp only [Bool.false_eq_true, if_false, Nat.add_zero] at hb hg
      have hr1 : recN k f (j + 1) = recN k f j := by
        rw [hstep]; unfold rec1; rw [hh, hl]; rfl
      rw [show 6 * (d + 1) = 6 * d + 5 + 1 by omega]
      refine fin (wr .i64 (n + 1)) ?_
      simp only [rclX, Rcl.step, Rcl.works, hne, if_false, hh, hl, Bool.false_eq_true, decide_false, Bool.not_false, Bool.true_and, if_true, hb, hg, hr1]
    | true =>
      have s1 : rclX k (⟨backC k f j, goneC k f j, j, none⟩, recN k f j, n) = (⟨backC k f j, goneC k f j, j, some ⟨false, false, 0, none, 1⟩⟩, recN k f j, wr .i64 (n + 1)) := by
        simp only [rclX, Rcl.step, Rcl.works, hne, if_false, hh, hl, decide_false, Bool.not_false, Bool.true_and, if_true]
      have s2 : ∀ n, rclX k (⟨backC k f j, goneC k f j, j, some ⟨false, false, 0, none, 1⟩⟩, recN k f j, n) = (⟨backC k f j, goneC k f j, j, some ⟨false, false, freed (f (.header j)) k.g, none, 3⟩⟩, recN k f j, wr .i64 (n + 1)) := fun n => by
        simp only [rclX, Rcl.step, Rcl.works, Fre.step, Fre.works, hne, if_false, hh, hl, decide_false, decide_true, Bool.not_false, Bool.true_and, Bool.true_or, if_true, Int.reduceEq]
      rw [show 6 * (d + 1) = 6 * d + 4 + 1 + 1 by omega]
      refine Go.next _ s1 (fun h => hne h) (Go.next _ (s2 _) (fun h => hne h) ?_)
      cases hd : deadB k (f (.header j)) with
      | true =>
        have e0 : backB k f j = false := by unfold backB; rw [hl, hd]; rfl
        have e1 : goneB k f j = true := by unfold goneB; rw [hl, hd]; rfl
        rw [e0] at hb; rw [e1] at hg
        simp only [Bool.false_eq_true, if_false, if_true, Nat.add_zero] at hb hg
        have hk4 : (unp (freed (f (.header j)) k.g)).kind = 4 := of_decide_eq_true hd
        have hr1 : recN k f (j + 1) = wset (recN k f j) (.header j) (freed (f (.header j)) k.g) := by
          rw [hstep]; unfold rec1; rw [hh, hl, hd]; rfl
        refine fin (m := 3) (wr .i64 (wr .i64 (wr .i64 (n + 1) + 1) + 1)) ?_
        simp only [rclX, Rcl.step, Rcl.works, Fre.step, Fre.works, hne, if_false, hk4, decide_false, decide_true, Bool.not_false, Bool.true_and, Bool.true_or, Bool.false_or, if_true, Int.reduceEq, hb, hg, hr1, Bool.false_eq_true, Nat.add_zero]
      | false =>
        have e0 : backB k f j = true := by unfold backB; rw [hl, hd]; rfl
        have e1 : goneB k f j = false := by unfold goneB; rw [hl, hd]; rfl
        rw [e0] at hb; rw [e1] at hg
        simp only [Bool.false_eq_true, if_false, if_true, Nat.add_zero] at hb hg
        have hk4 : ¬ (unp (freed (f (.header j)) k.g)).kind = 4 := of_decide_eq_false hd
        generalize hnow : freed (f (.header j)) k.g = now at hk4
        have hr1 : recN k f (j + 1) = wset (wset (wset (recN k f j) (.header j) now) (.link j) (firstT k (recN k f j .top) + 1)) .top (movedW (recN k f j .top) j) := by
          rw [hstep]; unfold rec1; rw [hh, hl, hd, hnow]; rfl
        have t3 : wset (recN k f j) (.header j) now .top = recN k f j .top := wset_ne (by simp)
        have s3 : ∀ n, rclX k (⟨backC k f j, goneC k f j, j, some ⟨false, false, now, none, 3⟩⟩, recN k f j, n) = (⟨backC k f j, goneC k f j, j, some ⟨false, false, now, some ⟨0, 0⟩, 4⟩⟩, wset (recN k f j) (.header j) now, wr .i64 (n + 1)) := fun n => by
          simp only [rclX, Rcl.step, Rcl.works, Fre.step, Fre.works, hne, if_false, hk4, decide_false, decide_true, Bool.not_false, Bool.true_and, Bool.true_or, Bool.false_or, if_true, Int.reduceEq]
        generalize hf3 : wset (recN k f j) (.header j) now = f3 at t3 s3 hr1
        have s4 : ∀ n, rclX k (⟨backC k f j, goneC k f j, j, some ⟨false, false, now, some ⟨0, 0⟩, 4⟩⟩, f3, n) = (⟨backC k f j, goneC k f j, j, some ⟨false, false, now, some ⟨1, f3 .top⟩, 4⟩⟩, f3, wr .i64 (n + 1)) := fun n => by
          simp only [rclX, Rcl.step, Rcl.works, Fre.step, Fre.works, Psh.step, Psh.works, hne, if_false, decide_false, decide_true, Bool.not_false, Bool.true_and, Bool.true_or, Bool.false_or, Bool.or_true, if_true, Int.reduceEq]
        have s5 : ∀ n, rclX k (⟨backC k f j, goneC k f j, j, some ⟨false, false, now, some ⟨1, f3 .top⟩, 4⟩⟩, f3, n) = (⟨backC k f j, goneC k f j, j, some ⟨false, false, now, some ⟨2, f3 .top⟩, 4⟩⟩, wset f3 (.link j) (firstT k (f3 .top) + 1), wr .i64 (n + 1)) := fun n => by
          simp only [rclX, Rcl.step, Rcl.works, Fre.step, Fre.works, Psh.step, Psh.works, hne, if_false, decide_false, decide_true, Bool.not_false, Bool.true_and, Bool.true_or, Bool.false_or, Bool.or_true, if_true, Int.reduceEq]
        have t5 : wset f3 (.link j) (firstT k (f3 .top) + 1) .top = f3 .top := wset_ne (by simp)
        have s6 : ∀ n, rclX k (⟨backC k f j, goneC k f j, j, some ⟨false, false, now, some ⟨2, f3 .top⟩, 4⟩⟩, wset f3 (.link j) (firstT k (f3 .top) + 1), n) = (⟨backC k f (j + 1), goneC k f (j + 1), j + 1, none⟩, recN k f (j + 1), wr .i64 (n + 1)) := fun n => by
          rw [hr1, ← t3]
          simp only [rclX, Rcl.step, Rcl.works, Fre.step, Fre.works, Psh.step, Psh.works, hne, if_false, t5, decide_false, decide_true, Bool.not_false, Bool.true_and, Bool.false_or, Bool.or_true, if_true, Int.reduceEq, hb, hg, Bool.false_eq_true, Nat.add_zero]
        rw [show 6 * d + 4 = 6 * d + 0 + 1 + 1 + 1 + 1 by omega]
        exact Go.next _ (s3 _) (fun h => hne h) (Go.next _ (s4 _) (fun h => hne h) (Go.next _ (s5 _) (fun h => hne h) (fin (m := 0) _ (s6 _))))
end Wm
end

section
/- The free list behind a Reclaim. -/
namespace Wm
attribute [local congr] bind_congr1
attribute [local irreducible] wr

def pushL (k : Cfg) (f : Wd → Int) (l0 : List Nat) : Nat → List Nat
  | 0 => l0
  | j + 1 => if backB k f j then j :: pushL k f l0 j else pushL k f l0 j
theorem pushL_mem {k : Cfg} {f : Wd → Int} {l0 : List Nat} : ∀ {j q : Nat}, q ∈ pushL k f l0 j → q ∈ l0 ∨ q < j
  | 0, q, h => .inl h
  | j + 1, q, h => by
    unfold pushL at h
    split at h
    · rcases List.mem_cons.mp h with rfl | h
      · exact .inr (Nat.lt_succ_self _)
      · exact (pushL_mem h).imp id (fun h => Nat.lt_succ_of_lt h)
    · exact (pushL_mem h).imp id (fun h => Nat.lt_succ_of_lt h)
theorem pushL_len (k : Cfg) (f : Wd → Int) (l0 : List Nat) : ∀ j, (pushL k f l0 j).length = l0.length + backC k f j
  | 0 => rfl
  | j + 1 => by
    rw [backC_succ]
    unfold pushL
    split
    · rw [List.length_cons, pushL_len]; rfl
    · rw [pushL_len]; rfl
theorem firstT_top {k : Cfg} {w : Int} {l : List Nat} {f : Wd → Int} (hks : k.s = (k.S : Int)) (hc : ChainL k f (w % 65536) l) : firstT k w + 1 = w % 65536 := by
  unfold firstT
  cases l with
  | nil =>
    have h : w % 65536 = 0 := hc
    rw [h, if_neg (by omega)]; rfl
  | cons q l =>
    obtain ⟨h1, h2, _⟩ := hc
    rw [h1, if_neg (by omega)]; omega
theorem movedW_mod {w : Int} {q : Nat} (h : q < 64) : movedW w q % 65536 = (q : Int) + 1 := by unfold movedW; omega
/-- The free list, slot by slot. -/
theorem recN_chain {k : Cfg} (hr : k.R = true) {f : Wd → Int} {l0 : List Nat} (h0 : ∀ q ∈ l0, limbo (f (.header q)) = false) (hc : ChainL k f (f .top % 65536) l0) : ∀ j, j ≤ k.S → ChainL k (recN k f j) (recN k f j .top % 65536) (pushL k f l0 j)
  | 0, _ => hc
  | j + 1, hj => by
    have ih := recN_chain hr h0 hc j (by omega)
    have hks : k.s = (k.S : Int) := by have := Cfg.R_iff.mp hr; unfold Cfg.S; omega
    have hS := (Cfg.bounds hr).1
    have hh : recN k f j (.header j) = f (.header j) := recN_header (Nat.le_refl _)
    show ChainL k (rec1 k (recN k f j) j) (rec1 k (recN k f j) j .top % 65536) (pushL k f l0 (j + 1))
    unfold rec1 pushL
    rw [hh]
    cases hl : limbo (f (.header j)) with
    | false =>
      have e0 : backB k f j = false := by unfold backB; rw [hl]; rfl
      rw [e0]
      simp only [Bool.false_eq_true, if_false]
      exact ih
    | true =>
      simp only [if_true]
      cases hd : deadB k (f (.header j)) with
      | true =>
        have e0 : backB k f j = false := by unfold backB; rw [hl, hd]; rfl
        rw [e0]
        simp only [Bool.false_eq_true, if_false, if_true]
        rw [wset_ne (by simp)]
        exact ih.congr fun q _ => wset_ne (by simp)
      | false =>
        have e0 : backB k f j = true := by unfold backB; rw [hl, hd]; rfl
        rw [e0]
        simp only [Bool.false_eq_true, if_false, if_true]
        rw [wset_same]
        have hnew : j ∉ pushL k f l0 j := fun hm => by
          rcases pushL_mem hm with h | h
          · rw [h0 j h] at hl; cases hl
          · exact Nat.lt_irrefl _ h
        refine ⟨movedW_mod (by omega), by omega, ?_⟩
        rw [wset_ne (by simp), wset_same, firstT_top hks ih]
        refine ih.congr fun q hq => ?_
        have hqj : q ≠ j := fun h => hnew (h ▸ hq)
        rw [wset_ne (by simp), wset_ne (by simp [hqj]), wset_ne (by simp)]

/-! ### The free list of a heap that is laid -/
def freeG (l : List Slt) : Nat → Nat → List Nat
  | _, 0 => []
  | n, d + 1 => if (hdL l n).kind = 0 then n :: freeG l (n + 1) d else freeG l (n + 1) d
theorem freeG_mem {l : List Slt} : ∀ {d n q : Nat}, q ∈ freeG l n d → (hdL l q).kind = 0 ∧ q < n + d
  | 0, n, q, h => by cases h
  | d + 1, n, q, h => by
    unfold freeG at h
    split at h
    · rename_i hk
      rcases List.mem_cons.mp h with rfl | h
      · exact ⟨hk, by omega⟩
      · have := freeG_mem h; exact ⟨this.1, by omega⟩
    · have := freeG_mem h; exact ⟨this.1, by omega⟩
theorem laidW_plain {k : Cfg} {l : List Slt} {w : Wd} (h1 : w ≠ .grays) (h2 : w ≠ .top) : laidW k l [] [] w = laidS k l 0 w := by
  unfold laidW laidV
  rw [wset_ne h1, List.length_nil, Nat.zero_min, Nat.zero_min]
  show laidT k l w = _
  unfold laidT
  rw [wset_ne h2]
theorem laidW_header {k : Cfg} (l : List Slt) (q : Nat) : laidW k l [] [] (.header q) = (hdL l q).word := by
  rw [laidW_plain (by simp) (by simp)]; simp [laidS]
theorem laidW_top {k : Cfg} (l : List Slt) : laidW k l [] [] .top = topL k l 0 := by
  unfold laidW laidV
  rw [wset_ne (by simp), List.length_nil, Nat.zero_min, Nat.zero_min]
  show laidT k l .top = _
  unfold laidT
  rw [wset_same]
theorem free_chain {k : Cfg} {l : List Slt} : ∀ (d n : Nat), n + d = k.S → ChainL k (laidW k l [] []) (topG l n d) (freeG l n d)
  | 0, n, _ => rfl
  | d + 1, n, h => by
    have ih := free_chain (k := k) (l := l) d (n + 1) (by omega)
    unfold topG freeG
    by_cases hk : (hdL l n).kind = 0
    · rw [if_pos hk, if_pos hk]
      refine ⟨rfl, by omega, ?_⟩
      have hlk : laidW k l [] [] (.link n) = topG l (n + 1) d := by
        rw [laidW_plain (by simp) (by simp)]
        simp only [laidS]
        rw [if_pos ⟨Nat.zero_le _, hk⟩]
        unfold topL
        rw [show k.S - (n + 1) = d by omega]
      rw [hlk]; exact ih
    · rw [if_neg hk, if_neg hk]; exact ih
theorem laid_chain {k : Cfg} (hr : k.R = true) (l : List Slt) : ChainL k (laidW k l [] []) (laidW k l [] [] .top % 65536) (freeG l 0 k.S) := by
  have hS := (Cfg.bounds hr).1
  have hb := topL_bd k l (Nat.zero_le k.S)
  rw [laidW_top, Int.emod_eq_of_lt hb.1 (by omega)]
  unfold topL
  rw [Nat.sub_zero]
  exact free_chain k.S 0 (Nat.zero_add _)
end Wm
end

section
/- The headers of words: withylaw14.heads. -/
namespace Wm
attribute [local congr] bind_congr1
attribute [local irreducible] wr

/-- A row of headers that grew. -/
def HeadsAt (g : Nat → Option Blk) (x : V) (l : List Hdr) : Prop := Grown g x 6 (l.map Hdr.cs).flatten
theorem HeadsAt.fr {g g' : H} {L : List Nat} {x : V} {l : List Hdr} (G : HeadsAt g.get x l) (ok : g.ok) (F : Fr L g g') (h : ∀ b ∈ x.blk, b ∉ L) : HeadsAt g'.get x l := Grown.fr G ok F h
theorem HeadsAt.at {g : H} {x : V} {l : List Hdr} (G : HeadsAt g.get x l) {i : Nat} {y : Hdr} (hy : l[i]? = some y) : ∃ b, indexAV 6 x (.int .i64 (i : Int)) = some (.ptr b (i * 6)) ∧ ldNB (g.get b) (i * 6) 6 = some (.agg y.cs) ∧ b ∈ x.blk := by
  have hi := lt_of_get hy
  have hn : (l.map Hdr.cs).flatten.length = l.length * 6 := by rw [flat_length (hdrs6 l), List.length_map]
  obtain ⟨_, h0⟩ | ⟨b, n, rfl, hl, hb⟩ := G
  · rw [h0] at hn; simp only [List.length_nil] at hn; omega
  · rw [hn] at hl
    have hnl : n = l.length := by omega
    subst hnl
    refine ⟨b, sl_idx hi, ?_, by simp [V.blk]⟩
    rw [hb, ldNB_cells, decide_eq_true (by rw [hn]; omega), flat_part (hdrs6 l) i y.cs (by rw [List.getElem?_map, hy]; rfl)]
def headsL (f : Wd → Int) (n : Nat) : List Hdr := (List.range n).map fun q => unp (f (.header q))
theorem headsL_succ (f : Wd → Int) (n : Nat) : ((headsL f n).map Hdr.cs).flatten ++ (unp (f (.header n))).cs = ((headsL f (n + 1)).map Hdr.cs).flatten := by
  unfold headsL
  rw [List.range_succ, List.map_append, List.map_append, List.flatten_append]
  simp
theorem headsL_at {f : Wd → Int} {n q : Nat} (h : q < n) : (headsL f n)[q]? = some (unp (f (.header q))) := by
  unfold headsL
  rw [List.getElem?_map, List.getElem?_range h]; rfl
theorem headsL_len (f : Wd → Int) (n : Nat) : ((headsL f n).map Hdr.cs).flatten.length = n * 6 := by
  rw [flat_length (hdrs6 _), List.length_map]; unfold headsL; rw [List.length_map, List.length_range]

theorem heads_spec {k : Cfg} (hr : k.R = true) {h : H} (ok : h.ok) {b : Nat} {c : Cap} {f : Wd → Int} (Z : WordsAt k h b f) :
    Ev (C 200 [k.v, .sl b 0 k.size c] h) fun r => Fr [] h r.2 ∧ HeadsAt r.2.get r.1 (headsL f k.S) ∧ ∀ c ∈ r.1.blk, h.next ≤ c := by
  refine call_ev (af := F.withylaw14_heads) (by kernel_rfl) rfl ?_
  have hbd := Cfg.bounds hr
  have hks : k.s = (k.S : Int) := by have := Cfg.R_iff.mp hr; unfold Cfg.S; omega
  have hv : k.v = .agg [.int .i64 k.s, .int .i64 k.a, .int .i64 k.c, .int .i64 k.hd, .int .i64 k.g, .int .i64 k.st] := rfl
  rw [hv, S.withylaw14_heads_eq]
  simp only [S.withylaw14_heads]
  have F0 : Fr [] h (h.new (.cells [.int .i64 k.s, .int .i64 k.a, .int .i64 k.c, .int .i64 k.hd, .int .i64 k.g, .int .i64 k.st] .rw)) := (Fr.refl ok).new _
  refine loop_ev (α := Nat × V) (fun y => S.withylaw14_heads_c1_E (.sl b 0 k.size c) (.ptr h.next 0) y.2 (.int .i64 (y.1 : Nat)))
    (fun y g => y.1 ≤ k.S ∧ Fr [] h g ∧ g.get h.next = some (.cells [.int .i64 k.s, .int .i64 k.a, .int .i64 k.c, .int .i64 k.hd, .int .i64 k.g, .int .i64 k.st] .rw) ∧ HeadsAt g.get y.2 (headsL f y.1) ∧ (∀ c ∈ y.2.blk, h.next ≤ c ∧ c ≠ h.next)) (fun y _ => k.S - y.1)
    (fun r => ∃ x, r.1 = .exit 0 ∧ r.2.1 = S.withylaw14_heads_c1_O x ∧ Fr [] h r.2.2 ∧ HeadsAt r.2.2.get x (headsL f k.S) ∧ ∀ c ∈ x.blk, h.next ≤ c)
    (0, .nilsl) rfl ⟨Nat.zero_le _, F0, get_new_self _ _, Grown.nil _ _, by simp [V.blk]⟩ ?_ ?_
  rotate_left
  · rintro ⟨_, _, g⟩ ⟨x, rfl, rfl, F, G, hx⟩
    show Ev (S.withylaw14_heads_K2 W (.exit 0) _ g) _
    rw [S.withylaw14_heads_c1_e0_eq]
    exact Ev.some ⟨F, G, hx⟩
  rintro ⟨i, x⟩ g ⟨hi, F, hc, G, hx⟩
  dsimp only at hi F hc G hx ⊢
  rw [S.withylaw14_heads_c1_eq]
  have d1 : decide ((i : Int) < k.s) = decide (i < k.S) := by rw [hks]; exact gr_lt
  by_cases hik : i < k.S
  rotate_left
  · rw [decide_eq_false hik] at d1
    have he : i = k.S := Nat.le_antisymm hi (Nat.le_of_not_lt hik)
    subst he
    simp only [S.withylaw14_heads_c1_S, ptrAt_ptr, Option.bind_some, ld1_get', ldN_get', st_get', get_new', ldB_cells, ldNB_cells, stB_cells, List.getElem?_cons_zero, Nat.zero_add, Nat.add_zero, Nat.reduceAdd, Nat.reduceLeDiff, V.one, V.cells, asI_int, List.length_cons, List.length_nil, Bool.and_true, Bool.false_or, decide_true, decide_false, if_true, splice, List.take_succ_cons, List.take_zero, List.drop_zero, List.cons_append, List.nil_append, reduceCtorEq, fill, repl, opd, boxc, W_call, hc, d1]
    exact Ev.some (.inr ⟨by simp, x, rfl, rfl, F, G, fun c hc => (hx c hc).1⟩)
  rw [decide_eq_true hik] at d1
  have hok : (Wd.header i).ok k := hik
  have hi64 : i < 1000 := Nat.lt_of_lt_of_le hik (Nat.le_trans hbd.1.2 (by decide))
  have wi := gr_i hi64
  have Zg := Z.fr ok F (by simp)
  have hat := at_wd hr hok
  rw [hv] at hat
  have hat' : ∀ h, C 108 [.agg [.int .i64 k.s, .int .i64 k.a, .int .i64 k.c, .int .i64 k.hd, .int .i64 k.g, .int .i64 k.st], .agg [.str ⟨⟨[104, 101, 97, 100, 101, 114]⟩⟩, .int .i64 (i : Int), .int .i64 0]] h = some (.int .i64 ((Wd.header i).pos k : Nat), h) := hat
  have hix := words_ix (b := b) (c := c) hok
  have hld := Zg.ld hok
  have hU := Z.u64 _ hok
  have hUn := fun h => refUnp_spec hU h
  have hkk : (unp (f (.header i))).cs = [.int .i64 (unp (f (.header i))).kind, .int .i64 (unp (f (.header i))).mark, .bool (unp (f (.header i))).gray, .int .i64 (unp (f (.header i))).arity, .int .i64 (unp (f (.header i))).gen, .int .i64 (unp (f (.header i))).stamp] := rfl
  rw [hkk] at hUn
  have ok0 := F.ok
  have Fa : Fr [] g ((g.new (.cells [.int .i64 0, .int .i64 0, .bool false, .int .i64 0, .int .i64 0, .int .i64 0] .rw)).put g.next (some (.cells (unp (f (.header i))).cs .rw))) := ((Fr.refl ok0).new _).put (.inr (Nat.le_refl _)) (Nat.lt_succ_self _) _
  rw [hkk] at Fa
  generalize hga : ((g.new (.cells [.int .i64 0, .int .i64 0, .bool false, .int .i64 0, .int .i64 0, .int .i64 0] .rw)).put g.next (some (.cells [.int .i64 (unp (f (.header i))).kind, .int .i64 (unp (f (.header i))).mark, .bool (unp (f (.header i))).gray, .int .i64 (unp (f (.header i))).arity, .int .i64 (unp (f (.header i))).gen, .int .i64 (unp (f (.header i))).stamp] .rw))) = ga at Fa
  have hla : g.next ≤ ga.next := Fa.le
  have Fb : Fr [] ga (ga.new (.cells (unp (f (.header i))).cs .rw)) := (Fr.refl Fa.ok).new _
  have hlb := Fb.le
  have hlen : ((headsL f i).map Hdr.cs).flatten.length ≤ 1000000 := by rw [headsL_len]; omega
  obtain ⟨x', g', e', F', G', hn', _⟩ := Grown.push Fb.ok (bytes := 48) ((HeadsAt.fr (HeadsAt.fr G ok0 Fa (by simp)) Fa.ok Fb (by simp)) : Grown _ x 6 _) (get_new_self ga _) rfl rfl (by decide) ⟨by decide, by decide⟩ hlen
  rw [hkk] at e'
  have hcl := ok0.lt hc
  have hga2 : ga.next = g.next + 1 := by rw [← hga]; rfl
  have hgag : ga.get g.next = some (.cells [.int .i64 (unp (f (.header i))).kind, .int .i64 (unp (f (.header i))).mark, .bool (unp (f (.header i))).gray, .int .i64 (unp (f (.header i))).arity, .int .i64 (unp (f (.header i))).gen, .int .i64 (unp (f (.header i))).stamp] .rw) := by rw [← hga]; exact get_put_self _ _ _
  have F0' : Fr x.blk g g' := ((Fa.mono (by simp)).trans' (Fb.mono (by simp))).trans' F'
  simp only [S.withylaw14_heads_c1_S, ptrAt_ptr, Option.bind_some, Option.map_some, ld1_get', ldN_get', st_get', get_put', get_new', ldB_cells, ldNB_cells, stB_cells, H.next_new, H.next_put, List.getElem?_cons_zero, List.getElem?_cons_succ, Nat.zero_add, Nat.add_zero, Nat.reduceAdd, Nat.reduceLeDiff, V.one, V.cells, asI_int, List.length_cons, List.length_nil, Nat.beq_refl, List.all_cons, List.all_nil, Bool.and_true, Bool.not_true, Bool.false_or, Bool.or_self, Bool.and_self, decide_true, decide_false, if_true, splice, List.take_succ_cons, List.take_zero, List.drop_succ_cons, List.drop_zero, List.cons_append, List.nil_append, reduceCtorEq, fill, repl, opd, boxc, W_call, hc, d1, hat', hix, hld, hUn, wi]
  rw [hga]
  rw [hga2] at e'
  simp only [Option.bind_some, e']
  refine Ev.some (.inl ⟨(i + 1, x'), rfl, rfl, ⟨hik, F.trans F0' fun c hc => .inr (hx c hc).1, F0'.get ok0 hc (fun hm => (hx _ hm).2 rfl), ?_, fun c hc => ?_⟩, Nat.sub_lt_sub_left hik (Nat.lt_succ_self i)⟩)
  · show Grown _ _ 6 _
    rw [← headsL_succ]; exact G'
  · have h1 : g.next ≤ c := Nat.le_trans hla (Nat.le_trans hlb (hn' c hc))
    exact ⟨Nat.le_trans F.le h1, fun q => absurd hcl (Nat.not_lt_of_le (q ▸ h1))⟩
end Wm
end

section
/- A Sweep alone. -/
namespace Wm
attribute [local congr] bind_congr1
attribute [local irreducible] wr

abbrev SwpSt := Swp × (Wd → Int) × Int
def swpX (k : Cfg) (e : Int) (x : SwpSt) : SwpSt := ((x.1.step k e x.2.1).1, (x.1.step k e x.2.1).2, if x.1.works k then wr .i64 (x.2.2 + 1) else x.2.2)
def swpFin (k : Cfg) (x : SwpSt) : Prop := x.1.slot = k.S
instance (k : Cfg) (x : SwpSt) : Decidable (swpFin k x) := inferInstanceAs (Decidable (x.1.slot = k.S))
def sweepF (f : Wd → Int) (e : Int) (j : Nat) : Wd → Int
  | .header q => if q < j then retired (f (.header q)) e else f (.header q)
  | w => f w
def goneN (f : Wd → Int) (e : Int) (j : Nat) : Nat := ((List.range j).filter fun q => white (f (.header q)) e).length
theorem sweepF_zero (f : Wd → Int) (e : Int) : sweepF f e 0 = f := by funext w; cases w <;> simp [sweepF]
theorem retired_same {w e : Int} (h : white w e = false) : retired w e = w := by unfold retired; rw [h]; rfl
theorem sweepF_succ (f : Wd → Int) (e : Int) (j : Nat) : sweepF f e (j + 1) = wset (sweepF f e j) (.header j) (retired (f (.header j)) e) := by
  funext w
  unfold wset
  cases w with
  | header q =>
    simp only [sweepF, Wd.header.injEq]
    by_cases h1 : q = j
    · subst h1; rw [if_pos (Nat.lt_succ_self _), if_pos rfl]
    · rw [if_neg h1]
      by_cases h2 : q < j
      · rw [if_pos (Nat.lt_succ_of_lt h2), if_pos h2]
      · rw [if_neg (by omega), if_neg h2]
  | _ => rfl
theorem sweepF_at (f : Wd → Int) (e : Int) (j : Nat) : sweepF f e j (.header j) = f (.header j) := by simp [sweepF]
theorem sweepF_skip {f : Wd → Int} {e : Int} {j : Nat} (h : white (f (.header j)) e = false) : sweepF f e (j + 1) = sweepF f e j := by
  rw [sweepF_succ, retired_same h]
  funext w
  unfold wset
  split
  · rename_i hw; rw [hw, sweepF_at]
  · rfl
theorem goneN_succ (f : Wd → Int) (e : Int) (j : Nat) : goneN f e (j + 1) = goneN f e j + if white (f (.header j)) e then 1 else 0 := cnt_succ _ _
theorem sweep_go {k : Cfg} {e : Int} {f : Wd → Int} {Q : SwpSt → Prop} (hQ : ∀ was n, Q (⟨goneN f e k.S, k.S, was, false⟩, sweepF f e k.S, n)) :
    ∀ (d j : Nat) (was n : Int), j + (d + 1) = k.S → Go (swpX k e) (swpFin k) (2 * (d + 1)) (⟨goneN f e j, j, was, false⟩, sweepF f e j, n) Q
  | d, j, was, n, hj => by
    have hne : j ≠ k.S := by omega
    have hg := goneN_succ f e j
    rw [show 2 * (d + 1) = 2 * d + 1 + 1 by omega]
    cases hw : white (f (.header j)) e with
    | false =>
      rw [hw] at hg
      simp only [Bool.false_eq_true, if_false, Nat.add_zero] at hg
      have e1 : swpX k e (⟨goneN f e j, j, was, false⟩, sweepF f e j, n) = (⟨goneN f e (j + 1), j + 1, f (.header j), false⟩, sweepF f e (j + 1), wr .i64 (n + 1)) := by
        simp only [swpX, Swp.step, Swp.works, hne, if_false, sweepF_at, hw, Bool.false_eq_true, decide_false, Bool.not_false, if_true, hg, sweepF_skip hw]
      by_cases hd : d = 0
      · subst hd
        have hj1 : j + 1 = k.S := hj
        refine Go.done _ e1 hj1 ?_
        rw [hj1]
        exact hQ _ _
      · obtain ⟨d', rfl⟩ : ∃ d', d = d' + 1 := ⟨d - 1, by omega⟩
        have hf : ¬ swpFin k (⟨goneN f e (j + 1), j + 1, f (.header j), false⟩, sweepF f e (j + 1), wr .i64 (n + 1)) := fun h => by
          have h : j + 1 = k.S := h
          omega
        refine Go.next _ e1 hf ?_
        exact Go.more 1 (sweep_go hQ d' (j + 1) _ _ (by omega))
    | true =>
      rw [hw] at hg
      simp only [if_true] at hg
      have e1 : swpX k e (⟨goneN f e j, j, was, false⟩, sweepF f e j, n) = (⟨goneN f e j, j, f (.header j), true⟩, sweepF f e j, wr .i64 (n + 1)) := by
        simp only [swpX, Swp.step, Swp.works, hne, if_false, sweepF_at, hw, Bool.false_eq_true, decide_false, Bool.not_false, if_true]
      have e2 : swpX k e (⟨goneN f e j, j, f (.header j), true⟩, sweepF f e j, wr .i64 (n + 1)) = (⟨goneN f e (j + 1), j + 1, f (.header j), false⟩, sweepF f e (j + 1), wr .i64 (wr .i64 (n + 1) + 1)) := by
        simp only [swpX, Swp.step, Swp.works, hne, if_false, sweepF_at, decide_false, Bool.not_false, if_true, hg, sweepF_succ]
      refine Go.next _ e1 (fun h => hne h) ?_
      by_cases hd : d = 0
      · subst hd
        have hj1 : j + 1 = k.S := hj
        refine Go.done _ e2 hj1 ?_
        rw [hj1]
        exact hQ _ _
      · obtain ⟨d', rfl⟩ : ∃ d', d = d' + 1 := ⟨d - 1, by omega⟩
        refine Go.next _ e2 (fun h => by
          have h : j + 1 = k.S := h
          omega) ?_
        exact sweep_go hQ d' (j + 1) _ _ (by omega)

/-- The machine, alone, to its end. -/
theorem sweep_ends {k : Cfg} (hr : k.R = true) {e : Int} (he : U64 e) {g0 : H} (ok : g0.ok) {p pw b : Nat} {f : Wd → Int} {n : Int} (h1 : b ≠ p) (h2 : b ≠ pw) {s : Swp} (Z : SwpAt g0 b k e s) (M : MemF g0 p pw k f n) (hs : s.slot ≠ k.S)
    {m : Nat} {most : Int} (hmost : (m : Int) ≤ most) (hm2 : m < 1000000) {Q : SwpSt → Prop} (G : Go (swpX k e) (swpFin k) m (s, f, n) Q) :
    Ev (C 199 [.ifc 206 (.ptr b 0), .ptr p 0, .int .i64 most] g0) fun r => r.1 = .bool true ∧ ∃ y : SwpSt, Q y ∧ y.1.slot = k.S ∧ Fr [b, p, pw] g0 r.2 ∧ SwpAt r.2 b k e y.1 ∧ MemF r.2 p pw k y.2.1 y.2.2 := by
  refine ends14 (X := SwpSt) (st := swpX k e) (fin := swpFin k) (ty := 206) (fn := 190) rfl (I := fun g x => Fr [b, p, pw] g0 g ∧ SwpAt g b k e x.1 ∧ MemF g p pw k x.2.1 x.2.2) (tc := fun x => x.2.2) ?_ ?_ ?_ hmost hm2 G ⟨.refl ok, Z, M⟩ hs
  · rintro g ⟨s, f, n⟩ ⟨F, Z, M⟩ _
    refine (Z.step F.ok hr he M h1 h2).mono fun r ⟨r1, r2, r3, r4⟩ => ⟨?_, F.trans' r2, r3, r4⟩
    rw [r1]
    rfl
  · rintro g ⟨s, f, n⟩ ⟨F, Z, M⟩
    exact M.touches
  · rintro g ⟨s, f, n⟩ ⟨F, Z, M⟩ hf
    have hw : s.works k = true := by
      unfold Swp.works
      rw [decide_eq_false (show ¬ s.slot = k.S from hf)]; rfl
    show ¬ wr .i64 (n + 1) < (if s.works k then wr .i64 (n + 1) else n)
    rw [hw]
    exact Int.lt_irrefl _
end Wm
end

section
/- The document's example of a layer, run by the kernel. -/
namespace Wm
set_option maxRecDepth 100000 in
theorem awake14_run : runF prog meth 2000 200 192 [] .empty = some (.bool true, .empty) := by kernel_rfl
theorem awake14 (h : H) : C 192 [] h = some (.bool true, h) := call_closed_run (af := F.withylaw14_awake) (by kernel_rfl) rfl (by rw [← runF_eq]; exact awake14_run) h
end Wm
end

section
/- The law SweepSweeps, of my machine. -/
namespace Wm
attribute [local congr] bind_congr1
attribute [local irreducible] wr

theorem sweepF_head {k : Cfg} (f : Wd → Int) (e : Int) {q : Nat} (h : q < k.S) : sweepF f e k.S (.header q) = retired (f (.header q)) e := by simp [sweepF, h]
theorem ss_2 {k : Cfg} (hr : k.R = true) : wr .i64 (2 * k.s) = ((2 * k.S : Nat) : Int) ∧ 2 * k.S < 1000000 ∧ (0 : Nat) ≠ k.S := by
  have := Cfg.R_iff.mp hr
  have h2 := (Cfg.bounds hr).1
  have hks : k.s = (k.S : Int) := by unfold Cfg.S; omega
  rw [hks, wr64 (by omega) (by omega)]
  omega
/-- A heap that is laid, and its memory. -/
theorem laid_mem {k : Cfg} (hr : k.R = true) {h : H} (ok : h.ok) {bw : Nat} {c : Cap} {kk : Bk} {f : Wd → Int} (hU : ∀ w, U64 (f w)) (hw : h.get bw = some (.cells ((k.row f).map (.int .u64)) kk)) :
    Ev (C 198 [.sl bw 0 k.size c] h) fun r => ∃ p q, r.1 = .ptr p 0 ∧ Fr [] h r.2 ∧ h.next ≤ p ∧ h.next ≤ q ∧ MemF r.2 p q k f 0 := by
  have hbd := Cfg.bounds hr
  have hsz : 4 ≤ k.size := by unfold Cfg.size Cfg.base; omega
  refine (memOf_spec (x := .sl bw 0 k.size c) (ws := k.row f) ok ⟨by rw [row_length]; omega, .inr ⟨bw, _, _, by rw [row_length], hw⟩⟩ (by intro q; have := row_length k f; rw [q] at this; simp only [List.length_nil] at this; omega) (by rw [row_length]; omega) (row_U64 hU)).mono ?_
  rintro r ⟨p, q, h1, h2, h3, h4, h5⟩
  exact ⟨p, q, h1, h2, h3, h4, _, h5⟩

end Wm
end

section
/- The law SweepShades, of my machine. -/
namespace Wm
attribute [local congr] bind_congr1
attribute [local irreducible] wr

theorem hdr_eq (a b : Int) (c : Bool) (d f g : Int) : eqOffs [V.int .i64 a, .int .i64 b, .bool c, .int .i64 d, .int .i64 f, .int .i64 g] [V.int .i64 a, .int .i64 b, .bool c, .int .i64 d, .int .i64 f, .int .i64 g] [(0, .int), (1, .int), (2, .bool), (3, .int), (4, .int), (5, .int)] = some true := by
  simp [eqOffs, eqCell]

end Wm
end

section
/- The law SweepReclaims, of my machine. -/
namespace Wm
attribute [local congr] bind_congr1
attribute [local irreducible] wr

/-- What is free at work takes steps. -/
def Rcl.live (s : Rcl) : Prop := ∀ t, s.free = some t → t.works = true
theorem Psh.live {k : Cfg} {q : Nat} {s : Psh} {f : Wd → Int} (h : s.works = true) (h3 : (s.step k q f).1.at' ≠ 3) : (s.step k q f).1.works = true := by
  obtain ⟨a, t⟩ := s
  unfold Psh.works at h
  simp only [Bool.or_eq_true, decide_eq_true_eq] at h
  unfold Psh.step at h3 ⊢
  simp only at h3 ⊢
  rcases h with (rfl | rfl) | rfl
  · simp [Psh.works]
  · simp [Psh.works]
  · by_cases hz : f .top = t
    · simp [hz] at h3
    · simp [Psh.works, hz]
theorem Fre.live {k : Cfg} {q : Nat} {s : Fre} {f : Wd → Int} (h : s.works = true) (h5 : (s.step k q f).1.next ≠ 5) : (s.step k q f).1.works = true := by
  obtain ⟨bk, gn, now, ps, nx⟩ := s
  unfold Fre.works at h
  simp only [Bool.or_eq_true, Bool.and_eq_true, decide_eq_true_eq] at h
  unfold Fre.step at h5 ⊢
  simp only at h5 ⊢
  rcases h with (rfl | rfl) | ⟨rfl, h⟩
  · by_cases hl : limbo (f (.header q))
    · simp [Fre.works, hl]
    · simp [hl] at h5
  · by_cases hk : (unp now).kind = 4
    · simp [hk] at h5
    · simp [Fre.works, hk, Psh.works]
  · cases ps with
    | none => simp at h
    | some t =>
      simp only at h
      by_cases hd : (t.step k q f).1.at' = 3
      · simp [hd] at h5
      · simp [hd, Fre.works, Psh.live h hd]
theorem Rcl.live_step {k : Cfg} {s : Rcl} {f : Wd → Int} (h : s.live) : (s.step k f).1.live := by
  obtain ⟨bk, gn, sl, fr⟩ := s
  unfold Rcl.step
  simp only
  by_cases h0 : sl = k.S
  · rw [if_pos h0]; exact h
  · rw [if_neg h0]
    cases fr with
    | none =>
      simp only
      split
      · intro t ht; cases ht; rfl
      · intro t ht; cases ht
    | some t0 =>
      simp only
      by_cases hd : (t0.step k sl f).1.next = 5
      · simp only [if_pos hd]; intro t ht; cases ht
      · simp only [if_neg hd]; intro t ht; cases ht; exact Fre.live (h t0 rfl) hd

/-- The machine, alone, to its end. -/
theorem reclaim_ends {k : Cfg} (hr : k.R = true) {g0 : H} (ok : g0.ok) {p pw b : Nat} {f : Wd → Int} {n : Int} {s : Rcl} {L : List Nat} (Z : RclAt g0 b k s L) (hL : ∀ c ∈ L, c ≠ p ∧ c ≠ pw) (M : MemF g0 p pw k f n) (hs : s.slot ≠ k.S) (hlv : s.live)
    {m : Nat} {most : Int} (hmost : (m : Int) ≤ most) (hm2 : m < 1000000) {Q : RclSt → Prop} (G : Go (rclX k) (rclFin k) m (s, f, n) Q) :
    Ev (C 199 [.ifc 207 (.ptr b 0), .ptr p 0, .int .i64 most] g0) fun r => r.1 = .bool true ∧ ∃ y : RclSt, Q y ∧ y.1.slot = k.S ∧ Fr (L ++ [p, pw]) g0 r.2 ∧ MemF r.2 p pw k y.2.1 y.2.2 ∧ ∃ L', RclAt r.2 b k y.1 L' ∧ (∀ c ∈ L', c ∈ L ∨ g0.next ≤ c) ∧ ∀ c ∈ L', c ≠ p ∧ c ≠ pw := by
  obtain ⟨pl, pwl, _⟩ := M.lt ok
  have hnew : ∀ {c : Nat}, g0.next ≤ c → c ≠ p ∧ c ≠ pw := fun h => ⟨fun q => absurd pl (Nat.not_lt_of_le (q ▸ h)), fun q => absurd pwl (Nat.not_lt_of_le (q ▸ h))⟩
  refine (ends14 (X := RclSt) (st := rclX k) (fin := rclFin k) (ty := 207) (fn := 191) rfl (I := fun g x => Fr (L ++ [p, pw]) g0 g ∧ MemF g p pw k x.2.1 x.2.2 ∧ x.1.live ∧ ∃ L', RclAt g b k x.1 L' ∧ (∀ c ∈ L', c ∈ L ∨ g0.next ≤ c) ∧ ∀ c ∈ L', c ≠ p ∧ c ≠ pw) (tc := fun x => x.2.2) ?_ ?_ ?_ hmost hm2 G ⟨.refl ok, M, hlv, L, Z, fun c hc => .inl hc, hL⟩ hs).mono ?_
  · rintro g ⟨s, f, n⟩ ⟨F, M, lv, L', Z, hL', hLp⟩ _
    refine (Z.step F.ok hr M hLp).mono fun r ⟨r1, L2, r2, r3, r4, r5⟩ => ⟨?_, F.trans r2 ?_, r5, Rcl.live_step lv, L2, r3, ?_, ?_⟩
    · rw [r1]; rfl
    · intro c hc
      rcases List.mem_append.mp hc with hc | hc
      · exact (hL' c hc).imp (fun h => by simp [h]) id
      · exact .inl (by simp only [List.mem_append]; exact .inr hc)
    · intro c hc
      rcases r4 c hc with h | h
      · exact hL' c h
      · exact .inr (Nat.le_trans F.le h)
    · intro c hc
      rcases r4 c hc with h | h
      · exact hLp c h
      · exact hnew (Nat.le_trans F.le h)
  · rintro g ⟨s, f, n⟩ ⟨F, M, _⟩
    exact M.touches
  · rintro g ⟨s, f, n⟩ ⟨F, M, lv, _⟩ hf
    have hw : s.works k = true := by
      unfold Rcl.works
      rw [decide_eq_false (show ¬ s.slot = k.S from hf)]
      cases hfr : s.free with
      | none => rfl
      | some t => simp only [Bool.not_false, Bool.true_and]; exact lv t hfr
    show ¬ wr .i64 (n + 1) < (if s.works k then wr .i64 (n + 1) else n)
    rw [hw]
    exact Int.lt_irrefl _
  · rintro r ⟨h1, y, h2, h3, h4, h5, _, L', h6, h7, h8⟩
    exact ⟨h1, y, h2, h3, h4, h5, L', h6, h7, h8⟩

/-- What a slot's header comes to, in three cases. -/
theorem rc_plain {w : Int} (h : (unp w).kind ≠ 3) : limbo w = false := by
  unfold limbo; rw [decide_eq_false h, Bool.and_false]
theorem rc_gone {k : Cfg} {w : Int} (ho : okT w = true) (h : (unp w).kind = 3) (hg : k.g ≤ (unp w).gen + 1) : limbo w = true ∧ unp (freed w k.g) = { unp w with kind := 4 } ∧ deadB k w = true := by
  have hl : limbo w = true := by unfold limbo; rw [ho, decide_eq_true h]; rfl
  have hr := (right_iff _).mp (unp_right w)
  have hu : unp (freed w k.g) = { unp w with kind := 4 } := by
    unfold freed
    rw [hl, if_pos rfl, if_pos (.inl hg)]
    exact unp_word ((right_iff _).mpr ⟨by simp, hr.2⟩)
  exact ⟨hl, hu, by unfold deadB; rw [hu]; rfl⟩
theorem rc_back {k : Cfg} (hr : k.R = true) {w : Int} (ho : okT w = true) (h : (unp w).kind = 3) (hg : ¬ k.g ≤ (unp w).gen + 1) : limbo w = true ∧ unp (freed w k.g) = ⟨0, 0, false, 0, (unp w).gen + 1, 0⟩ ∧ deadB k w = false := by
  have hl : limbo w = true := by unfold limbo; rw [ho, decide_eq_true h]; rfl
  have hR := (right_iff _).mp (unp_right w)
  have hb := Cfg.R_iff.mp hr
  have hu : unp (freed w k.g) = ⟨0, 0, false, 0, (unp w).gen + 1, 0⟩ := by
    unfold freed
    rw [hl, if_pos rfl, if_neg (by omega)]
    exact unp_word ((right_iff _).mpr (by simp only; omega))
  exact ⟨hl, hu, by unfold deadB; rw [hu]; rfl⟩

theorem rc_7 {k : Cfg} (hr : k.R = true) : wr .i64 (7 * k.s) = ((7 * k.S : Nat) : Int) ∧ 6 * k.S < 1000000 ∧ (0 : Nat) ≠ k.S := by
  have := Cfg.R_iff.mp hr
  have h2 := (Cfg.bounds hr).1
  have hks : k.s = (k.S : Int) := by unfold Cfg.S; omega
  rw [hks, wr64 (by omega) (by omega)]
  omega
end Wm
end

section
/- The law SweepBoth, of my machine. -/
namespace Wm
attribute [local congr] bind_congr1
attribute [local irreducible] wr

/-- What a header comes to by both. -/
def bothW (k : Cfg) (e w : Int) : Int := if limbo (retired w e) then freed (retired w e) k.g else retired w e
theorem both_cases {k : Cfg} (hr : k.R = true) {e w : Int} (ho : okT w = true) :
    (unp (bothW k e w)).kind ≠ 3 ∧ ((markedW w e = true ∨ (unp w).kind = 0 ∨ (unp w).kind = 4) → unp (bothW k e w) = unp w) ∧ (¬ (markedW w e = true ∨ (unp w).kind = 0 ∨ (unp w).kind = 4) → (unp (bothW k e w)).kind = 0 ∨ (unp (bothW k e w)).kind = 4) ∧
    (if (unp (bothW k e w)).kind = 0 then 1 else 0) = (if (unp w).kind = 0 then 1 else 0) + (if (limbo (retired w e) && !deadB k (retired w e)) = true then 1 else 0) := by
  have hR := (right_iff _).mp (unp_right w)
  have lim : ∀ {v : Int}, okT v = true → (unp v).kind = 3 → limbo v = true ∧ ((unp (freed v k.g)).kind = 0 ∧ deadB k v = false ∨ (unp (freed v k.g)).kind = 4 ∧ deadB k v = true) := by
    intro v hv h3
    by_cases hg : k.g ≤ (unp v).gen + 1
    · obtain ⟨h1, h2, h4⟩ := rc_gone hv h3 hg; exact ⟨h1, .inr ⟨by rw [h2], h4⟩⟩
    · obtain ⟨h1, h2, h4⟩ := rc_back hr hv h3 hg; exact ⟨h1, .inl ⟨by rw [h2], h4⟩⟩
  unfold bothW
  cases hw : white w e with
  | true =>
    have hret : retired w e = ({ unp w with kind := 3, gray := false, stamp := e % 65536 } : Hdr).word := by unfold retired; rw [hw]; rfl
    obtain ⟨hlv, hmk⟩ := (white_iff w e).mp hw
    have hk : (unp w).kind = 1 ∨ (unp w).kind = 2 := by
      unfold lives at hlv
      simp only [Bool.and_eq_true, Bool.or_eq_true, decide_eq_true_eq] at hlv
      exact hlv.2
    have hm : markedW w e = false := by unfold markedW; rw [hlv, Bool.true_and]; exact decide_eq_false hmk
    have h3 : (unp (retired w e)).kind = 3 := by rw [hret, unp_word retiredH_right]
    have ho' : okT (retired w e) = true := by rw [hret]; exact okT_word retiredH_right
    obtain ⟨h1, h2⟩ := lim ho' h3
    rw [h1, if_pos rfl, hm]
    rcases h2 with ⟨h2, h4⟩ | ⟨h2, h4⟩
    · rw [h2, h4]
      refine ⟨by omega, fun h => ?_, fun _ => .inl rfl, ?_⟩
      · rcases h with h | h | h
        · cases h
        · omega
        · omega
      · have : ¬ (unp w).kind = 0 := by omega
        simp [this]
    · rw [h2, h4]
      refine ⟨by omega, fun h => ?_, fun _ => .inr rfl, ?_⟩
      · rcases h with h | h | h
        · cases h
        · omega
        · omega
      · have : ¬ (unp w).kind = 0 := by omega
        simp [this]
  | false =>
    rw [retired_same hw]
    by_cases h3 : (unp w).kind = 3
    · obtain ⟨h1, h2⟩ := lim ho h3
      have hm : markedW w e = false := by
        unfold markedW lives
        rw [h3]; simp
      rw [h1, if_pos rfl, hm]
      rcases h2 with ⟨h2, h4⟩ | ⟨h2, h4⟩
      · rw [h2, h4, h3]
        exact ⟨by omega, by simp, fun _ => .inl rfl, by simp⟩
      · rw [h2, h4, h3]
        exact ⟨by omega, by simp, fun _ => .inr rfl, by simp⟩
    · have hl := rc_plain h3
      rw [hl, if_neg (by simp)]
      refine ⟨h3, fun _ => rfl, fun h => ?_, by simp⟩
      exfalso
      apply h
      by_cases h12 : (unp w).kind = 1 ∨ (unp w).kind = 2
      · left
        have hlv : lives w = true := by
          unfold lives
          rw [ho]
          simp only [Bool.true_and, Bool.or_eq_true, decide_eq_true_eq]
          exact h12
        cases hm : markedW w e with
        | true => rfl
        | false =>
          unfold markedW at hm
          rw [hlv, Bool.true_and] at hm
          have := (white_iff w e).mpr ⟨hlv, of_decide_eq_false hm⟩
          rw [hw] at this; cases this
      · right; omega

/-- How many are free. -/
def zeroC (f : Wd → Int) (j : Nat) : Nat := ((List.range j).filter fun q => decide ((unp (f (.header q))).kind = 0)).length
theorem zeroC_succ (f : Wd → Int) (j : Nat) : zeroC f (j + 1) = zeroC f j + if (unp (f (.header j))).kind = 0 then 1 else 0 := by
  unfold zeroC
  rw [cnt_succ]
  simp only [decide_eq_true_eq]
theorem zeroC_le (f : Wd → Int) (j : Nat) : zeroC f j ≤ j := by
  unfold zeroC
  exact Nat.le_trans (List.length_filter_le _ _) (by simp)
theorem zero_both {k : Cfg} (hr : k.R = true) {e : Int} {f f1 f2 : Wd → Int} (ho : ∀ q, okT (f (.header q)) = true) : ∀ j, (∀ q, q < j → f1 (.header q) = retired (f (.header q)) e ∧ f2 (.header q) = bothW k e (f (.header q))) → zeroC f2 j = zeroC f j + backC k f1 j
  | 0, _ => rfl
  | j + 1, h => by
    have ih := zero_both hr ho j (fun q hq => h q (Nat.lt_succ_of_lt hq))
    obtain ⟨h1, h2⟩ := h j (Nat.lt_succ_self j)
    have hc := (both_cases hr (e := e) (ho j)).2.2.2
    rw [zeroC_succ, zeroC_succ, backC_succ, ih, h2, hc]
    unfold backB
    rw [h1]
    omega
theorem free_zero {k : Cfg} {l : List Slt} : ∀ (d n : Nat), (freeG l n d).length + zeroC (laidW k l [] []) n = zeroC (laidW k l [] []) (n + d)
  | 0, n => by show 0 + _ = _; rw [Nat.zero_add, Nat.add_zero]
  | d + 1, n => by
    have ih := free_zero (k := k) (l := l) d (n + 1)
    rw [zeroC_succ, laidW_header, unp_word (hdL_right l n)] at ih
    rw [show n + (d + 1) = n + 1 + d by omega, ← ih]
    rw [show freeG l n (d + 1) = if (hdL l n).kind = 0 then n :: freeG l (n + 1) d else freeG l (n + 1) d from rfl]
    split
    · simp only [List.length_cons]; omega
    · omega

theorem ldB_of {b : Option Blk} {o n : Nat} {v : V} {vs : List V} (h : ldNB b o n = some (.agg (v :: vs))) (h1 : v.one = true) : ldB b o = some v := by
  match b, h with
  | some (.cells cs bk), h =>
    by_cases hh : o + n ≤ cs.length
    · simp only [ldNB, hh, decide_true, Option.some.injEq, V.agg.injEq] at h
      have h0 := congrArg (fun l : List V => l[0]?) h
      simp only [List.getElem?_take, List.getElem?_drop, List.getElem?_cons_zero, Nat.add_zero] at h0
      rw [ldB_cells]
      split at h0
      · rw [h0]; simp only [h1]
      · cases h0
    · simp only [ldNB, hh, decide_false] at h
      cases h

/-- One slot is looked at. -/
theorem bo_one {k : Cfg} (hr : k.R = true) {e : Int} (he : U64 e) {g : H} (ok : g.ok) {c0 : Nat} {x8 x11 x12 : V} (hc : g.get c0 = some (.cells [.int .i64 k.s, .int .i64 k.a, .int .i64 k.c, .int .i64 k.hd, .int .i64 k.g, .int .i64 k.st] .rw)) {L9 L10 : List Hdr} (h9 : HeadsAt g.get x11 L9) (h10 : HeadsAt g.get x12 L10) {i : Nat} (hi : i < k.S) {y y' : Hdr} (a9 : L9[i]? = some y) (a10 : L10[i]? = some y') (hyr : y.right = true) (n3 : y'.kind ≠ 3) (hsame : (markedW y.word e = true ∨ y.kind = 0 ∨ y.kind = 4) → y' = y) (helse : ¬ (markedW y.word e = true ∨ y.kind = 0 ∨ y.kind = 4) → y'.kind = 0 ∨ y'.kind = 4) {bc bc' : Int} (hb0 : y'.kind = 0 → wr .i64 (bc + 1) = bc') (hb1 : y'.kind ≠ 0 → bc' = bc) :
    Ev (S.withylaw14_SweepBoth_c1_S W e (.ptr c0 0) x8 x11 x12 bc (i : Nat) g) fun r => r.1 = .normal ∧ r.2.1 = S.withylaw14_SweepBoth_c1_E (.int .u64 e) (.ptr c0 0) x8 x11 x12 (.int .i64 bc') (.int .i64 (i + 1 : Nat)) ∧ Fr [] g r.2.2 := by
  have hPk := fun h => refPack_spec hyr h
  have hMk := fun h => refMarked_spec (word_U64 hyr) he h
  generalize y.word = w at hPk hMk hsame helse
  obtain ⟨kd, m, gr, ar, gn, st⟩ := y
  obtain ⟨kd', m', gr', ar', gn', st'⟩ := y'
  have hks : k.s = (k.S : Int) := by have := Cfg.R_iff.mp hr; unfold Cfg.S; omega
  have hb := (Cfg.bounds hr).1
  have d1 : decide ((i : Int) < k.s) = true := decide_eq_true (by omega)
  obtain ⟨b9, ix9, ld9, _⟩ := h9.at a9
  obtain ⟨b10, ix10, ld10, _⟩ := h10.at a10
  have e9 : (⟨kd, m, gr, ar, gn, st⟩ : Hdr).cs = [.int .i64 kd, .int .i64 m, .bool gr, .int .i64 ar, .int .i64 gn, .int .i64 st] := rfl
  have e10 : (⟨kd', m', gr', ar', gn', st'⟩ : Hdr).cs = [.int .i64 kd', .int .i64 m', .bool gr', .int .i64 ar', .int .i64 gn', .int .i64 st'] := rfl
  rw [e9] at ld9 hPk
  rw [e10] at ld10
  simp only at n3 hsame helse hb0 hb1
  have wi := l7_i (i := i) (by omega)
  clear hb hks
  have ld9a : ldB (g.get b9) (i * 6) = some (.int .i64 kd) := ldB_of ld9 rfl
  have ld10a : ldB (g.get b10) (i * 6) = some (.int .i64 kd') := ldB_of ld10 rfl
  have d3 : decide (kd' = 3) = false := decide_eq_false n3
  have fin : ∀ z, decide (kd' = 0) = z → (z = true → wr .i64 (bc + 1) = bc') ∧ (z = false → bc = bc') := fun z hz => ⟨fun h => hb0 (of_decide_eq_true (hz.trans h)), fun h => (hb1 (of_decide_eq_false (hz.trans h))).symm⟩
  cases hm : markedW w e with
  | true =>
    rw [hm] at hMk
    have hs := hsame (.inl hm)
    cases hs
    cases z : decide (kd = 0) with
    | true =>
      have w1 := (fin true z).1 rfl
      simp only [S.withylaw14_SweepBoth_c1_S, ptrAt_ptr, Option.bind_some, ld1_get', ldN_get', ldB_cells, List.getElem?_cons_zero, Nat.add_zero, Nat.reduceAdd, V.one, asI_int, Bool.not_true, eqV, W_call, hc, d1, ix9, ld9, hPk, hMk, ix10, ld10, ld10a, d3, hdr_eq, z, wi, w1]
      exact Ev.some ⟨rfl, rfl, .refl ok⟩
    | false =>
      have w1 := (fin false z).2 rfl
      simp only [S.withylaw14_SweepBoth_c1_S, ptrAt_ptr, Option.bind_some, ld1_get', ldN_get', ldB_cells, List.getElem?_cons_zero, Nat.add_zero, Nat.reduceAdd, V.one, asI_int, Bool.not_true, eqV, W_call, hc, d1, ix9, ld9, hPk, hMk, ix10, ld10, ld10a, d3, hdr_eq, z, wi, w1]
      exact Ev.some ⟨rfl, rfl, .refl ok⟩
  | false =>
    rw [hm] at hMk
    by_cases h0 : kd = 0
    · have hs := hsame (.inr (.inl h0))
      cases hs
      have z : decide (kd = 0) = true := decide_eq_true h0
      have w1 := (fin true z).1 rfl
      simp only [S.withylaw14_SweepBoth_c1_S, ptrAt_ptr, Option.bind_some, ld1_get', ldN_get', ldB_cells, List.getElem?_cons_zero, Nat.add_zero, Nat.reduceAdd, V.one, asI_int, Bool.not_true, eqV, W_call, hc, d1, ix9, ld9, ld9a, hPk, hMk, ix10, ld10, ld10a, d3, hdr_eq, z, wi, w1]
      exact Ev.some ⟨rfl, rfl, .refl ok⟩
    · have z : decide (kd = 0) = false := decide_eq_false h0
      by_cases h4 : kd = 4
      · have hs := hsame (.inr (.inr h4))
        cases hs
        have z4 : decide (kd = 4) = true := decide_eq_true h4
        have w1 := (fin false z).2 rfl
        simp only [S.withylaw14_SweepBoth_c1_S, ptrAt_ptr, Option.bind_some, ld1_get', ldN_get', ldB_cells, List.getElem?_cons_zero, Nat.add_zero, Nat.reduceAdd, V.one, asI_int, Bool.not_true, eqV, W_call, hc, d1, ix9, ld9, ld9a, hPk, hMk, ix10, ld10, ld10a, d3, hdr_eq, z, z4, wi, w1]
        exact Ev.some ⟨rfl, rfl, .refl ok⟩
      · have z4 : decide (kd = 4) = false := decide_eq_false h4
        rcases helse (by rw [hm]; simp [h0, h4]) with hk | hk
        · have z' : decide (kd' = 0) = true := decide_eq_true hk
          have w1 := (fin true z').1 rfl
          simp only [S.withylaw14_SweepBoth_c1_S, ptrAt_ptr, Option.bind_some, ld1_get', ldN_get', ldB_cells, List.getElem?_cons_zero, Nat.add_zero, Nat.reduceAdd, V.one, asI_int, Bool.not_true, Bool.not_false, eqV, W_call, hc, d1, ix9, ld9, ld9a, hPk, hMk, ix10, ld10a, d3, z, z4, z', wi, w1]
          exact Ev.some ⟨rfl, rfl, .refl ok⟩
        · have z' : decide (kd' = 0) = false := decide_eq_false (by omega)
          have z4' : decide (kd' = 4) = true := decide_eq_true hk
          have w1 := (fin false z').2 rfl
          simp only [S.withylaw14_SweepBoth_c1_S, ptrAt_ptr, Option.bind_some, ld1_get', ldN_get', ldB_cells, List.getElem?_cons_zero, Nat.add_zero, Nat.reduceAdd, V.one, asI_int, Bool.not_true, Bool.not_false, eqV, W_call, hc, d1, ix9, ld9, ld9a, hPk, hMk, ix10, ld10a, d3, z, z4, z', z4', wi, w1]
          exact Ev.some ⟨rfl, rfl, .refl ok⟩

theorem bo_27 {k : Cfg} (hr : k.R = true) : wr .i64 (2 * k.s) = ((2 * k.S : Nat) : Int) ∧ 2 * k.S < 1000000 ∧ wr .i64 (7 * k.s) = ((7 * k.S : Nat) : Int) ∧ 6 * k.S < 1000000 ∧ (0 : Nat) ≠ k.S := by
  obtain ⟨h1, h2, h3⟩ := rc_7 hr
  obtain ⟨h4, h5, _⟩ := ss_2 hr
  exact ⟨h4, h5, h1, h2, h3⟩

theorem sweepF_U64 {k : Cfg} {f : Wd → Int} {e : Int} (hU : ∀ w, U64 (f w)) (j : Nat) (w : Wd) : U64 (sweepF f e j w) := by
  cases w <;> try exact hU _
  rename_i q
  show U64 (if q < j then retired (f (.header q)) e else f (.header q))
  split
  · unfold retired
    split
    · exact word_U64 retiredH_right
    · exact hU _
  · exact hU _
theorem sweepF_link (f : Wd → Int) (e : Int) (j q : Nat) : sweepF f e j (.link q) = f (.link q) := rfl
theorem sweepF_top (f : Wd → Int) (e : Int) (j : Nat) : sweepF f e j .top = f .top := rfl

/-- The law's end. -/
theorem bo_end {k : Cfg} (hr : k.R = true) {g : H} (ok : g.ok) {c0 p pw : Nat} {f' : Wd → Int} {n : Int} (M : MemF g p pw k f' n) (hU : ∀ w, U64 (f' w)) (hc : g.get c0 = some (.cells [.int .i64 k.s, .int .i64 k.a, .int .i64 k.c, .int .i64 k.hd, .int .i64 k.g, .int .i64 k.st] .rw)) {l : List Nat} (hch : ChainL k f' (f' .top % 65536) l) (hl : l.length ≤ k.S) (x6 : V) {bc : Int} (hb : ((l.length : Nat) : Int) = bc) :
    Ev (S.withylaw14_SweepBoth_c1_e0 W (.ptr c0 0) x6 (.ptr p 0) bc g) fun r => r.1 = .bool true := by
  have hv : k.v = .agg [.int .i64 k.s, .int .i64 k.a, .int .i64 k.c, .int .i64 k.hd, .int .i64 k.g, .int .i64 k.st] := rfl
  have d1 : decide (((l.length : Nat) : Int) = bc) = true := decide_eq_true hb
  simp only [S.withylaw14_SweepBoth_c1_e0, Option.bind_some, ldN_get', ldNB_cells, Nat.zero_add, Nat.reduceAdd, Nat.reduceLeDiff, List.length_cons, List.length_nil, decide_true, List.take_succ_cons, List.take_zero, List.drop_zero, W_call, hc]
  refine Ev.bind (M.words ok) ?_
  rintro ⟨_, g1⟩ ⟨q, rfl, F1, hq, hq1⟩
  dsimp only at F1 hq1 ⊢
  have hc1 := F1.get ok hc (by simp)
  have hL := list07_spec hr F1.ok (c := .op 1) (⟨⟨_, hq1⟩, fun w _ => hU w⟩ : WordsAt k g1 q f') hch hl
  rw [hv] at hL
  simp only [ldNB_cells, Nat.zero_add, Nat.reduceAdd, Nat.reduceLeDiff, V.beq, V.beqs, ckB_some, List.length_cons, List.length_nil, Bool.and_self, decide_true, List.take_succ_cons, List.take_zero, List.drop_zero, hc1, ckB_some, V.beq, V.beqs, Bool.and_self]
  refine Ev.bind hL ?_
  rintro ⟨x, g2⟩ ⟨F2, R2, _⟩
  dsimp only at R2 ⊢
  have hln := R2.len
  rw [natI_len] at hln
  simp only [Option.bind_some, hln, d1]
  exact Ev.some rfl

def shSweepBoth : List (Bool × List CSh) := [(true, [.int .i64, .int .i64, .int .i64, .int .i64, .int .i64, .int .i64]), (false, [.sl 72 [.int .i64, .int .i64, .bool, .int .i64, .int .i64, .int .i64, .sl 8 [.int .u64]]]), (false, [.int .u64])]

theorem lawSweepBoth (h : H) (us : List V) (ok : h.ok) (ha : ArgsOk h.get shSweepBoth us) : Ev (C 42 us h) fun r => r.1 = .bool true := by
  obtain ⟨_, _, rfl, ⟨_, rfl, _, _, rfl, ⟨s, rfl, _⟩, _, _, rfl, ⟨a, rfl, _⟩, _, _, rfl, ⟨c, rfl, _⟩, _, _, rfl, ⟨hd, rfl, _⟩, _, _, rfl, ⟨g, rfl, _⟩, _, _, rfl, ⟨st, rfl, _⟩, rfl⟩, _, _, rfl, ⟨_, _, hx1, hx1c, rfl⟩, _, _, rfl, ⟨_, _, he, ⟨e, rfl, be⟩, rfl⟩, rfl⟩ := ha
  cases hx1; cases he
  rename_i x1
  obtain ⟨l, hx, hu, _, _⟩ := rowS_of hx1c
  have hE := wf_u64 be
  refine call_ev (af := F.withylaw14_SweepBoth) (by kernel_rfl) rfl ?_
  rw [S.withylaw14_SweepBoth_eq]
  have hfit := Fit_spec ⟨s, a, c, hd, g, st⟩
  have hr := Cfg.fit_R ⟨s, a, c, hd, g, st⟩
  generalize Cfg.fit ⟨s, a, c, hd, g, st⟩ = k at hfit hr
  have hv : ∀ k : Cfg, k.v = .agg [.int .i64 k.s, .int .i64 k.a, .int .i64 k.c, .int .i64 k.hd, .int .i64 k.g, .int .i64 k.st] := fun _ => rfl
  rw [hv, hv] at hfit
  simp only at hfit
  have hxl := hx.len
  by_cases h20 : 20 < l.length
  · have d : decide ((20 : Int) < (l.length : Int)) = true := decide_eq_true (by omega)
    simp only [S.withylaw14_SweepBoth, Option.bind_some, Option.map_some, ldN_get', st_get', get_new', ldNB_cells, stB_cells, Nat.zero_add, Nat.reduceAdd, Nat.reduceLeDiff, V.one, V.cells, List.length_cons, List.length_nil, Nat.beq_refl, List.all_cons, List.all_nil, Bool.not_true, Bool.or_self, Bool.and_self, decide_true, decide_false, if_true, splice, List.take_succ_cons, List.take_zero, List.drop_succ_cons, List.drop_zero, List.cons_append, List.nil_append, reduceCtorEq, W_call, hfit, hxl, d, awake14]
    exact Ev.some rfl
  have d : decide ((20 : Int) < (l.length : Int)) = false := decide_eq_false (by omega)
  simp only [S.withylaw14_SweepBoth, Option.bind_some, Option.map_some, ld1_get', ldN_get', st_get', get_put', get_new', ldNB_cells, stB_cells, Nat.zero_add, Nat.reduceAdd, Nat.reduceLeDiff, V.one, V.cells, asB_bool, List.length_cons, List.length_nil, Nat.beq_refl, List.all_cons, List.all_nil, Bool.not_true, Bool.or_self, Bool.and_self, decide_true, decide_false, if_true, splice, List.take_succ_cons, List.take_zero, List.drop_succ_cons, List.drop_zero, List.cons_append, List.nil_append, reduceCtorEq, eqV, W_call, hfit, hxl, d, awake14]
  generalize hg0 : (h.new _).put h.next _ = g0
  have hc0 : g0.get h.next = some (.cells [.int .i64 k.s, .int .i64 k.a, .int .i64 k.c, .int .i64 k.hd, .int .i64 k.g, .int .i64 k.st] .rw) := by rw [← hg0]; exact get_put_self _ _ _
  have f0 : Fr [] h g0 := by rw [← hg0]; exact ((Fr.refl ok).new _).put (.inr (Nat.le_refl _)) (Nat.lt_succ_self _) _
  have hLd := laid_spec hr f0.ok (x2 := .nilsl) (x3 := .nilsl) (roots := []) (views := []) (hx.fr ok f0) hu (.inl ⟨rfl, rfl⟩) (by simp) (.inl ⟨rfl, rfl⟩) (by simp)
  rw [hv] at hLd
  have hU : ∀ w, U64 (laidW k l [] [] w) := fun w => laidW_U64 hr hu (by simp) w
  have hCh := laid_chain hr l
  have hZ : (freeG l 0 k.S).length = zeroC (laidW k l [] []) k.S := by
    have := free_zero (k := k) (l := l) k.S 0
    rw [Nat.zero_add] at this
    exact this
  have hFl : ∀ q ∈ freeG l 0 k.S, (unp (laidW k l [] [] (.header q))).kind = 0 ∧ q < k.S := fun q hq => by
    have := freeG_mem hq
    rw [laidW_header, unp_word (hdL_right l q)]; exact ⟨this.1, by omega⟩
  have hOk : ∀ q, okT (laidW k l [] [] (.header q)) = true := fun q => by rw [laidW_header]; exact okT_word (hdL_right l q)
  generalize laidW k l [] [] = f at hLd hU hCh hFl hOk hZ
  generalize freeG l 0 k.S = l0 at hCh hFl hZ
  have hU1 : ∀ w, U64 (sweepF f e k.S w) := sweepF_U64 (k := k) hU k.S
  have hU2 := recN_U64 hr hU1 k.S (Nat.le_refl _)
  have hW1 : ∀ q, (unp (f (.header q))).kind = 0 → white (f (.header q)) e = false := fun q h0 => by
    cases hw : white (f (.header q)) e with
    | false => rfl
    | true =>
      have := ((white_iff _ _).mp hw).1
      unfold lives at this
      rw [h0] at this
      simp at this
  have hFl1 : ∀ q ∈ l0, limbo (sweepF f e k.S (.header q)) = false := fun q hq => by
    obtain ⟨h0, hlt⟩ := hFl q hq
    rw [sweepF_head f e hlt, retired_same (hW1 q h0)]
    exact rc_plain (by omega)
  have hCh1 : ChainL k (sweepF f e k.S) (sweepF f e k.S .top % 65536) l0 := by rw [sweepF_top]; exact hCh.congr fun q _ => sweepF_link f e k.S q
  have hCh2 := recN_chain hr hFl1 hCh1 k.S (Nat.le_refl _)
  have hB2 : ∀ q, q < k.S → recN k (sweepF f e k.S) k.S (.header q) = bothW k e (f (.header q)) := fun q hq => by
    rw [recN_done hq, sweepF_head f e hq]; rfl
  have hCt : (pushL k (sweepF f e k.S) l0 k.S).length = zeroC (recN k (sweepF f e k.S) k.S) k.S := by
    rw [pushL_len, hZ]
    exact (zero_both hr (e := e) hOk k.S fun q hq => ⟨sweepF_head f e hq, hB2 q hq⟩).symm
  generalize hf2 : recN k (sweepF f e k.S) k.S = f2 at hCh2 hB2 hCt hU2
  refine Ev.bind hLd ?_
  rintro ⟨_, g1⟩ ⟨bw, rfl, F1, hbw, hw1⟩
  dsimp only at F1 hw1 ⊢
  have ok1 := F1.ok
  have hc1 := F1.get f0.ok hc0 (by simp)
  refine Ev.bind (laid_mem hr ok1 hU hw1) ?_
  rintro ⟨_, g2⟩ ⟨p, pw, rfl, F2, hp, hpw, M2⟩
  dsimp only at F2 M2 ⊢
  have ok2 := F2.ok
  have hc2 := F2.get ok1 hc1 (by simp)
  obtain ⟨pl, pwl, pne⟩ := M2.lt ok2
  have hNS := newSweep_spec hr e ok2
  rw [hv] at hNS
  simp only [eqPtr_ptr, Option.bind_some, ldNB_cells, Nat.zero_add, Nat.reduceAdd, Nat.reduceLeDiff, List.length_cons, List.length_nil, decide_true, List.take_succ_cons, List.take_zero, List.drop_zero, hc2]
  refine Ev.bind hNS ?_
  rintro ⟨_, g3⟩ ⟨b, rfl, F3, hb, Z3⟩
  dsimp only at F3 hb Z3 ⊢
  have ok3 := F3.ok
  have hc3 := F3.get ok2 hc2 (by simp)
  have M3 := M2.fr ok2 F3 (by simp) (by simp)
  have hNR := newReclaim_spec hr ok3
  rw [hv] at hNR
  simp only [eqPtr_ptr, Option.bind_some, ldNB_cells, Nat.zero_add, Nat.reduceAdd, Nat.reduceLeDiff, V.beq, V.beqs, ckB_some, List.length_cons, List.length_nil, Bool.and_self, decide_true, List.take_succ_cons, List.take_zero, List.drop_zero, hc3, ckB_some, V.beq, V.beqs, Bool.and_self]
  refine Ev.bind hNR ?_
  rintro ⟨_, g4⟩ ⟨rb, L, rfl, F4, hrb, R4⟩
  dsimp only at F4 hrb R4 ⊢
  have ok4 := F4.ok
  have hc4 := F4.get ok3 hc3 (by simp)
  have M4 := M3.fr ok3 F4 (by simp) (by simp)
  have Z4 := Z3.fr ok3 F4 (by simp)
  obtain ⟨w2, m2, w7, m6, n0⟩ := bo_27 hr
  have nb1 : b ≠ p := Nat.ne_of_gt (Nat.lt_of_lt_of_le pl hb)
  have nb2 : b ≠ pw := Nat.ne_of_gt (Nat.lt_of_lt_of_le pwl hb)
  have l23 := F3.le
  have l34 := F4.le
  have hLp : ∀ c ∈ L, c ≠ p ∧ c ≠ pw := fun c hc => by
    have := hrb c hc
    exact ⟨Nat.ne_of_gt (Nat.lt_of_lt_of_le (Nat.lt_of_lt_of_le pl l23) this), Nat.ne_of_gt (Nat.lt_of_lt_of_le (Nat.lt_of_lt_of_le pwl l23) this)⟩
  have hLb : ∀ c ∈ L, c ∉ [b, p, pw] := fun c hc => by
    have h1 := hLp c hc
    have h2 : c ≠ b := Nat.ne_of_gt (Nat.lt_of_lt_of_le (ok3.lt Z3.own) (hrb c hc))
    simp [h1.1, h1.2, h2]
  obtain ⟨S', hS'⟩ : ∃ S', k.S = S' + 1 := ⟨k.S - 1, by clear w2 w7; omega⟩
  have G : Go (swpX k e) (swpFin k) (2 * k.S) (⟨0, 0, 0, false⟩, f, 0) (fun y => ∃ was, y.1 = ⟨goneN f e k.S, k.S, was, false⟩ ∧ y.2.1 = sweepF f e k.S) := by
    have := sweep_go (k := k) (e := e) (f := f) (Q := fun y => ∃ was, y.1 = ⟨goneN f e k.S, k.S, was, false⟩ ∧ y.2.1 = sweepF f e k.S) (fun was n => ⟨was, rfl, rfl⟩) S' 0 0 0 (by rw [hS', Nat.zero_add])
    rw [sweepF_zero, ← hS'] at this
    exact this
  have hEnds := sweep_ends hr hE ok4 nb1 nb2 Z4 M4 n0 (most := ((2 * k.S : Nat) : Int)) (Int.le_refl _) m2 G
  generalize ((2 * k.S : Nat) : Int) = most2 at w2 hEnds
  simp only [eqPtr_ptr, Option.bind_some, ldB_cells, List.getElem?_cons_zero, V.one, asI_int, hc4, w2]
  refine Ev.bind hEnds ?_
  rintro ⟨_, g5⟩ ⟨rfl, ⟨s5, f5, n5⟩, ⟨was, hs5, hf5⟩, _, F5, Z5, M5⟩
  dsimp only at hs5 hf5 F5 Z5 M5 ⊢
  subst hs5 hf5
  have ok5 := F5.ok
  have nh : ∀ {c : Nat}, c < g1.next → c ∉ [b, p, pw] ∧ c ∉ L ++ [p, pw] := fun {c} hc => by
    have h1 : c ≠ p := fun q => absurd hc (Nat.not_lt_of_le (q ▸ hp))
    have h2 : c ≠ pw := fun q => absurd hc (Nat.not_lt_of_le (q ▸ hpw))
    have h3 : c ≠ b := fun q => absurd (Nat.lt_of_lt_of_le hc F2.le) (Nat.not_lt_of_le (q ▸ hb))
    have h4 : c ∉ L := fun q => absurd (Nat.lt_of_lt_of_le (Nat.lt_of_lt_of_le hc F2.le) l23) (Nat.not_lt_of_le (hrb c q))
    simp [h1, h2, h3, h4]
  have hc5 := F5.get ok4 hc4 (nh (ok1.lt hc1)).1
  have hw5 := F5.get ok4 (F4.get ok3 (F3.get ok2 (F2.get ok1 hw1 (by simp)) (by simp)) (by simp)) (nh (ok1.lt hw1)).1
  have R5 := R4.fr ok4 F5 hLb
  have G2 : Go (rclX k) (rclFin k) (6 * k.S) (⟨0, 0, 0, none⟩, sweepF f e k.S, n5) (fun y => y.2.1 = f2) := by
    have := reclaim_go (k := k) (f := sweepF f e k.S) (Q := fun y => y.2.1 = f2) (fun n => hf2) S' 0 n5 (by rw [hS', Nat.zero_add])
    rw [← hS'] at this
    exact this
  have hEnds2 := reclaim_ends hr ok5 R5 hLp M5 n0 (by intro t ht; cases ht) (most := ((7 * k.S : Nat) : Int)) (by clear w7; omega) m6 G2
  generalize ((7 * k.S : Nat) : Int) = most7 at w7 hEnds2
  simp only [Option.bind_some, ldB_cells, List.getElem?_cons_zero, V.one, asI_int, asB_bool, Bool.not_true, hc5, w7]
  refine Ev.bind hEnds2 ?_
  rintro ⟨_, g6⟩ ⟨rfl, ⟨s6, f6, n6⟩, hf6, _, F6, M6, L6, R6, hL6, hLp6⟩
  dsimp only at hf6 F6 M6 ⊢
  rw [hf6] at M6
  have ok6 := F6.ok
  have hc6 := F6.get ok5 hc5 (nh (ok1.lt hc1)).2
  have hw6 := F6.get ok5 hw5 (nh (ok1.lt hw1)).2
  have W6 : WordsAt k g6 bw f := ⟨⟨_, hw6⟩, fun w _ => hU w⟩
  have hH1 := heads_spec hr ok6 (c := .ex k.size) W6
  rw [hv] at hH1
  simp only [Option.bind_some, ldNB_cells, Nat.zero_add, Nat.reduceAdd, Nat.reduceLeDiff, asB_bool, List.length_cons, List.length_nil, Bool.not_true, decide_true, List.take_succ_cons, List.take_zero, List.drop_zero, hc6]
  refine Ev.bind hH1 ?_
  rintro ⟨x11, g7⟩ ⟨F7, G7, _⟩
  dsimp only at F7 G7 ⊢
  have ok7 := F7.ok
  have hc7 := F7.get ok6 hc6 (by simp)
  have M7 := M6.fr ok6 F7 (by simp) (by simp)
  simp only [ldNB_cells, Nat.zero_add, Nat.reduceAdd, Nat.reduceLeDiff, V.beq, V.beqs, ckB_some, List.length_cons, List.length_nil, Bool.and_self, decide_true, List.take_succ_cons, List.take_zero, List.drop_zero, hc7, ckB_some, V.beq, V.beqs, Bool.and_self]
  refine Ev.bind (M7.words ok7) ?_
  rintro ⟨_, g8⟩ ⟨q, rfl, F8, hq, hq8⟩
  dsimp only at F8 hq8 ⊢
  have ok8 := F8.ok
  have hc8 := F8.get ok7 hc7 (by simp)
  have hH2 := heads_spec hr ok8 (c := .op 1) (⟨⟨_, hq8⟩, fun w _ => hU2 w⟩ : WordsAt k g8 q f2)
  rw [hv] at hH2
  simp only [ldNB_cells, Nat.zero_add, Nat.reduceAdd, Nat.reduceLeDiff, V.beq, V.beqs, ckB_some, List.length_cons, List.length_nil, Bool.and_self, decide_true, List.take_succ_cons, List.take_zero, List.drop_zero, hc8, ckB_some, V.beq, V.beqs, Bool.and_self]
  refine Ev.bind hH2 ?_
  rintro ⟨x12, g9⟩ ⟨F9, G9, _⟩
  dsimp only at F9 G9 ⊢
  have ok9 := F9.ok
  have hc9 := F9.get ok8 hc8 (by simp)
  have H9 := (HeadsAt.fr G7 ok7 F8 (by simp)).fr ok8 F9 (by simp)
  have M9 := M7.fr ok7 (F8.trans' F9) (by simp) (by simp)
  refine loop_ev (α := Nat) (fun i => S.withylaw14_SweepBoth_c1_E (.int .u64 e) (.ptr h.next 0) (.ptr p 0) x11 x12 (.int .i64 ((zeroC f2 i : Nat) : Int)) (.int .i64 (i : Nat)))
    (fun i g => i ≤ k.S ∧ Fr [] g9 g) (fun i _ => k.S - i)
    (fun r => r.1 = .exit 0 ∧ r.2.1 = S.withylaw14_SweepBoth_c1_O (.ptr h.next 0) .dead (.ptr p 0) (.int .i64 ((zeroC f2 k.S : Nat) : Int)) ∧ Fr [] g9 r.2.2)
    0 rfl ⟨Nat.zero_le _, .refl ok9⟩ ?_ ?_
  rotate_left
  · rintro ⟨_, _, g10⟩ ⟨rfl, rfl, F10⟩
    show Ev (S.withylaw14_SweepBoth_K2 W (.exit 0) _ g10) _
    rw [S.withylaw14_SweepBoth_c1_e0_eq]
    exact bo_end hr F10.ok (M9.fr ok9 F10 (by simp) (by simp)) hU2 (F10.get ok9 hc9 (by simp)) hCh2 (by rw [hCt]; exact zeroC_le _ _) _ (by rw [hCt])
  rintro i g10 ⟨hi, F10⟩
  rw [S.withylaw14_SweepBoth_c1_eq]
  by_cases hik : i < k.S
  · obtain ⟨b1, b2, b3, _⟩ := both_cases hr (e := e) (hOk i)
    have hzs := zeroC_succ f2 i
    have hzl := zeroC_le f2 i
    have hbd := (Cfg.bounds hr).1
    have e9 : (unp (f (.header i))).word = f (.header i) := word_unp (hU _) (hOk i)
    have a10 : (headsL f2 k.S)[i]? = some (unp (bothW k e (f (.header i)))) := by rw [headsL_at hik, hB2 i hik]
    rw [hB2 i hik] at hzs
    refine (bo_one hr hE F10.ok (F10.get ok9 hc9 (by simp)) (HeadsAt.fr H9 ok9 F10 (by simp)) (HeadsAt.fr G9 ok9 F10 (by simp)) hik (headsL_at hik) a10 (unp_right _) b1 (by rw [e9]; exact b2) (by rw [e9]; exact b3) (bc := ((zeroC f2 i : Nat) : Int)) (bc' := ((zeroC f2 (i + 1) : Nat) : Int)) (fun h0 => by rw [hzs, if_pos h0]; exact l7_i (by clear w2 w7; omega)) (fun h0 => by rw [hzs, if_neg h0, Nat.add_zero])).mono ?_
    rintro ⟨_, _, g11⟩ ⟨rfl, rfl, F11⟩
    exact .inl ⟨i + 1, rfl, rfl, ⟨hik, F10.trans' F11⟩, Nat.sub_lt_sub_left hik (Nat.lt_succ_self i)⟩
  · have hie : i = k.S := Nat.le_antisymm hi (Nat.le_of_not_lt hik)
    subst hie
    have hks : k.s = (k.S : Int) := by clear w2 w7; have := Cfg.R_iff.mp hr; unfold Cfg.S; omega
    have dd : decide ((k.S : Int) < k.s) = false := by rw [hks]; exact decide_eq_false (Int.lt_irrefl _)
    have hc10 := F10.get ok9 hc9 (by simp)
    simp only [S.withylaw14_SweepBoth_c1_S, ptrAt_ptr, Option.bind_some, ld1_get', ldB_cells, List.getElem?_cons_zero, Nat.add_zero, V.one, asI_int, eqV, W_call, hc10, dd]
    exact Ev.some (.inr ⟨by simp, rfl, rfl, F10⟩)
end Wm
end

