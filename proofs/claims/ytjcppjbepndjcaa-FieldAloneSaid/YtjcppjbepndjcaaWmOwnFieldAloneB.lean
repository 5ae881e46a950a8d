/- What the functions come to, and the law: of my machine. -/
import Derived.Test.YtjcppjbepndjcaaWmFast
import Derived.Test.YtjcppjbepndjcaaWmEv
import Derived.Test.YtjcppjbepndjcaaWmOwnFieldAloneA
import Derived.Test.YtjcppjbepndjcaaWmProgFieldAlone
import Derived.Test.YtjcppjbepndjcaaWmPOp0
import Derived.Test.YtjcppjbepndjcaaWmTxtFieldAloneA
set_option linter.all false
section
/- A run within bounds that is told what some calls come to. -/
namespace Wm

section
variable (orc : Nat → List V → Option V) (prog : Nat → Option AFunc) (meth : Nat → Nat → Option Nat) (rounds : Nat)
noncomputable def runO : Nat → Nat → List V → H → Option (V × H)
  | 0, _, _, _ => none
  | n + 1, f, args, h => match orc f args with
    | some v => some (v, h)
    | none => match prog f with
      | some af => callFF { call := runO n, loop := fun body env h => loopN body rounds env h, scope := fun body l env h => scopeN body rounds l env h, meth } rounds af args h
      | none => none

theorem runO_le (hO : ∀ f args v, orc f args = some v → ∀ h, callW prog meth f args h = some (v, h)) : ∀ (n f : Nat) (args : List V) (h : H), LeO (runO orc prog meth rounds n f args h) (callW prog meth f args h)
  | 0, _, _, _ => fun q hq => by simp [runO] at hq
  | n + 1, f, args, h => fun q hq => by
    simp only [runO] at hq
    cases ho : orc f args with
    | some v => rw [ho] at hq; cases hq; exact hO f args v ho h
    | none =>
      rw [ho] at hq
      cases hf : prog f with
      | none => rw [hf] at hq; cases hq
      | some af =>
        rw [hf] at hq
        simp only at hq
        rw [callFF_eq _ _ rfl rfl] at hq
        exact callW_eq hf (callF_le (M := { call := runO orc prog meth rounds n, loop := fun body env h => loopN body rounds env h, scope := fun body l env h => scopeN body rounds l env h, meth }) (M' := envW meth (callW prog meth)) ⟨fun f args h => runO_le hO n f args h, fun b b' e h hb r hr => loopW_of (loopN_le hb (Nat.le_refl _) e h r hr), fun b b' l e h hb r hr => scopeW_of (scopeN_le hb (Nat.le_refl _) l e h r hr), rfl⟩ af args h q hq)
end

def beqNats : List Nat → List Nat → Bool
  | [], [] => true
  | a :: l, b :: m => Nat.beq a b && beqNats l m
  | _, _ => false
theorem beqNats_eq : ∀ {l m : List Nat}, beqNats l m = true → l = m
  | [], [], _ => rfl
  | a :: l, b :: m, h => by
    simp only [beqNats, Bool.and_eq_true] at h
    rw [Nat.eq_of_beq_eq_true h.1, beqNats_eq h.2]
  | [], _ :: _, h => by cases h
  | _ :: _, [], h => by cases h

def bytesN (b : ByteArray) : List Nat := b.data.toList.map UInt8.toNat
theorem bytesN_eq {a b : ByteArray} (h : bytesN a = bytesN b) : a = b := by
  unfold bytesN at h
  have := List.map_inj_right (f := UInt8.toNat) (fun x y e => UInt8.toNat_inj.mp e) |>.mp h
  exact ByteArray.ext (Array.ext' this)

def Wd.okB (k : Cfg) : Wd → Bool
  | .clock | .epoch | .grays | .top => true
  | .pin q | .view q | .start q => Nat.blt q k.C
  | .entry q i => Nat.blt q k.C && Nat.blt i k.H
  | .header s | .link s => Nat.blt s k.S
  | .body s i => Nat.blt s k.S && Nat.blt i k.room
theorem Wd.okB_ok {k : Cfg} {l : Wd} (h : l.okB k = true) : l.ok k := by
  cases l <;> simp only [Wd.okB, Wd.ok, Bool.and_eq_true, Nat.blt_eq] at h ⊢ <;> exact h

def natOf : Int → Option Nat
  | .ofNat n => some n
  | .negSucc _ => none

def cands (q i : Nat) : List Wd := [.header q, .body q i, .link q, .pin q, .entry q i, .view q, .start q, .clock, .epoch, .grays, .top]
def isWd (k : Cfg) (nm : ByteArray) (q i : Nat) (l : Wd) : Bool := beqNats (bytesN nm) (bytesN l.name) && (Nat.beq l.who q && (Nat.beq l.i i && l.okB k))

def orcAt (k : Cfg) (f : Nat) (args : List V) : Option V :=
  match Nat.beq f 108 with
  | false => none
  | true => match args with
    | [.agg [.int .i64 s, .int .i64 a, .int .i64 c, .int .i64 hd, .int .i64 g, .int .i64 st], .agg [.str nm, .int .i64 q, .int .i64 i]] =>
      match decide (s = k.s) && (decide (a = k.a) && (decide (c = k.c) && (decide (hd = k.hd) && (decide (g = k.g) && decide (st = k.st))))) with
      | false => none
      | true => (natOf q).bind fun q => (natOf i).bind fun i => ((cands q i).find? (isWd k nm q i)).map fun l => .int .i64 (Int.ofNat (l.pos k))
    | _ => none

theorem natOf_some {x : Int} {n : Nat} (h : natOf x = some n) : x = n := by
  cases x with
  | ofNat m => cases h; rfl
  | negSucc m => cases h

theorem orcAt_ok {k : Cfg} (hr : k.R = true) {f : Nat} {args : List V} {v : V} (h : orcAt k f args = some v) (hp : H) : C f args hp = some (v, hp) := by
  unfold orcAt at h
  split at h
  · cases h
  · rename_i hf
    have hf := Nat.eq_of_beq_eq_true hf
    subst hf
    split at h
    · rename_i s a c hd g st nm q i
      split at h
      · cases h
      · rename_i hc
        simp only [Bool.and_eq_true, decide_eq_true_eq] at hc
        obtain ⟨rfl, rfl, rfl, rfl, rfl, rfl⟩ := hc
        rw [Option.bind_eq_some_iff] at h
        obtain ⟨q', hq, h⟩ := h
        rw [Option.bind_eq_some_iff] at h
        obtain ⟨i', hi, h⟩ := h
        rw [Option.map_eq_some_iff] at h
        obtain ⟨l, hl, rfl⟩ := h
        have hw := List.find?_some hl
        unfold isWd at hw
        simp only [Bool.and_eq_true] at hw
        obtain ⟨h1, h2, h3, h4⟩ := hw
        have h1 := bytesN_eq (beqNats_eq h1)
        have h2 := Nat.eq_of_beq_eq_true h2
        have h3 := Nat.eq_of_beq_eq_true h3
        have hq := natOf_some hq
        have hi := natOf_some hi
        subst h1 h2 h3 hq hi
        exact at_wd hr (Wd.okB_ok h4) hp
    · cases h

theorem C_orc {k : Cfg} (hr : k.R = true) {rounds n f : Nat} {args : List V} {h : H} {q : V × H} (hq : runO (orcAt k) prog meth rounds n f args h = some q) : C f args h = some q :=
  runO_le _ prog meth rounds (fun _ _ _ ho h => orcAt_ok hr ho h) n f args h q hq

theorem C_closed_any {f : Nat} {af : AFunc} (hf : prog f = some af) (hc : af.closed = true) {v : V} (e : (C f [] .empty).map (·.1) = some v) (h : H) : C f [] h = some (v, h) := by
  rw [Option.map_eq_some_iff] at e
  obtain ⟨⟨w, h0⟩, e, hw⟩ := e
  dsimp only at hw
  subst hw
  obtain ⟨n, hn⟩ := of_lim e
  cases n with
  | zero => simp [callN] at hn
  | succ n =>
    refine callW_of (n := n + 1) ?_
    simp only [callN, hf] at hn ⊢
    unfold callF at hn ⊢
    simp only [hc] at hn ⊢
    split at hn
    · rename_i hfl
      simp only [Option.bind_eq_some_iff] at hn ⊢
      obtain ⟨p, hp, hn⟩ := hn
      refine ⟨p, hp, ?_⟩
      split at hn
      · cases hn; rfl
      · cases hn
    · cases hn

theorem orc_closed {k : Cfg} (hr : k.R = true) {rounds n f : Nat} {af : AFunc} (hf : prog f = some af) (hc : af.closed = true) {v : V} (hq : (runO (orcAt k) prog meth rounds n f [] .empty).map (·.1) = some v) (h : H) : C f [] h = some (v, h) := by
  refine C_closed_any hf hc ?_ h
  rw [Option.map_eq_some_iff] at hq ⊢
  obtain ⟨q, hq, e⟩ := hq
  exact ⟨q, C_orc hr hq, e⟩
end Wm
end

section
/- The document's example of layer 10, run by the kernel; where a word stands is told. -/
namespace Wm
def cfg10 : Cfg := ⟨40, 3, 1, 1, 9, 0⟩
theorem cfg10_R : cfg10.R = true := by decide
set_option maxRecDepth 100000 in
theorem awake10_run : (runO (orcAt cfg10) prog meth 2000 200 125 [] .empty).map (·.1) = some (.bool true) := by kernel_rfl
theorem awake10 (h : H) : C 125 [] h = some (.bool true, h) := orc_closed cfg10_R (af := F.withylaw10_awake) (by kernel_rfl) rfl awake10_run h
end Wm
end

section
/- The worlds of layer 10's laws: their config, a word's place. -/
namespace Wm
attribute [local congr] bind_congr1
attribute [local irreducible] wr

theorem config10 (h : H) : C 301 [] h = some (cfg10.v, h) := by
  refine call_closed (af := F.withylaw10_config) (by kernel_rfl) rfl (by rfl) (by rfl) h ?_
  rw [S.withylaw10_config_eq]
  have hv : cfg10.v = .agg [.int .i64 40, .int .i64 3, .int .i64 1, .int .i64 1, .int .i64 9, .int .i64 0] := rfl
  rw [hv]
  exact ⟨_, rfl, rfl⟩

theorem at10 {l : Wd} (hl : l.ok cfg10) (h : H) : C 131 [cfg10.v, .str l.name, .int .i64 l.who, .int .i64 l.i] h = some (.int .i64 (l.pos cfg10 : Nat), h) := by
  refine call_closed (af := F.withylaw10_at) (by kernel_rfl) rfl (by rfl) (by rfl) h ?_
  have hv : cfg10.v = .agg [.int .i64 40, .int .i64 3, .int .i64 1, .int .i64 1, .int .i64 9, .int .i64 0] := rfl
  have ha := fun h => at_wd cfg10_R hl h
  unfold Wd.cells at ha
  rw [hv] at ha ⊢
  rw [S.withylaw10_at_eq]
  simp only [S.withylaw10_at, Option.bind_some, ldN_get', get_new', ldNB_cells, Nat.zero_add, Nat.reduceAdd, Nat.reduceLeDiff, List.length_cons, List.length_nil, decide_true, if_true, List.take_succ_cons, List.take_zero, List.drop_zero, W_call, ha]
  exact Ev.some rfl
end Wm
end

section
/- The memory that the laws of layer 9 begin with: withylaw09.filled. -/
namespace Wm
attribute [local congr] bind_congr1
attribute [local irreducible] wr

theorem mem0_U64 {k : Cfg} (hr : k.R = true) (w : Wd) : U64 (mem0 k w) := by
  have hb := Cfg.R_iff.mp hr
  cases w <;> simp only [mem0, U64] <;> (try split) <;> omega
theorem row_U64 {k : Cfg} {f : Wd → Int} (h : ∀ l, U64 (f l)) : ∀ w ∈ k.row f, U64 w := fun w hw => by
  obtain ⟨l, _, rfl⟩ := List.mem_map.mp hw; exact h l
theorem row_splice {ws : List Int} {p : Nat} (hp : p < ws.length) {kd : Go.IntKind} {v : Int} : (ws.map (V.int kd)).take p ++ [V.int kd v] ++ (ws.map (V.int kd)).drop (p + 1) = (ws.set p v).map (V.int kd) := by
  rw [List.map_set, List.set_eq_take_append_cons_drop, if_pos (by rw [List.length_map]; exact hp), List.append_assoc]; rfl

end Wm
end

section
/- Fields' machines of any arguments: is there one? And the steps of none. -/
namespace Wm
attribute [local congr] bind_congr1
attribute [local irreducible] wr

/-! ### A new book -/
def BookT.new : BookT := ⟨0, fun _ => none, fun _ => none⟩
theorem newBook_at {h : H} (ok : h.ok) : Ev (C 148 [] h) fun r => ∃ b, r.1 = .ptr b 0 ∧ Fr [] h r.2 ∧ ∃ m1 m2, b ≠ m1 ∧ b ≠ m2 ∧ m1 ≠ m2 ∧ h.next ≤ b ∧ h.next ≤ m1 ∧ h.next ≤ m2 ∧ BkAt r.2 b m1 m2 .new := by
  refine call_ev (af := F.field_NewBook) (by kernel_rfl) rfl ?_
  rw [S.field_NewBook_eq]
  unfold S.field_NewBook
  have e : ((h.new (.map [])).new (.map [])).next = h.next + 2 := rfl
  have e1 : (h.new (.map [])).next = h.next + 1 := rfl
  refine Ev.some ⟨_, rfl, (((Fr.refl ok).new _).new _).new _, h.next, h.next + 1, ?_, ?_, ?_, ?_, ?_, ?_, ⟨?_, ⟨[], ?_, ?_⟩, ⟨[], ?_, ?_⟩⟩⟩
  · rw [e]; omega
  · rw [e]; omega
  · omega
  · rw [e]; omega
  · omega
  · omega
  · exact get_new_self _ _
  · rw [get_new_ne (by rw [e]; omega), get_new_ne (by rw [e1]; omega)]; exact get_new_self _ _
  · exact findKey_nil _
  · rw [get_new_ne (by rw [e]; omega)]; exact get_new_self _ _
  · exact findKey_nil _
end Wm
end

section
/- The world that layer 10's laws begin with. -/
namespace Wm
attribute [local congr] bind_congr1
attribute [local irreducible] wr

def hdN (q : Nat) : Hdr := if 4 < q then ⟨2, 0, false, 0, 0, 0⟩ else ⟨1, 0, false, 3, 0, 0⟩
def beg10 (n : Nat) : Wd → Int
  | .header q => if q < n then (hdN q).word else 0
  | w => mem0 cfg10 w
theorem hdN_right (q : Nat) : (hdN q).right = true := by unfold hdN; split <;> decide
theorem beg10_U64 (n : Nat) (w : Wd) : U64 (beg10 n w) := by
  cases w with
  | header q =>
    simp only [beg10]
    split
    · exact word_U64 (hdN_right q)
    · exact ⟨by decide, by decide⟩
  | clock => exact mem0_U64 cfg10_R .clock
  | epoch => exact mem0_U64 cfg10_R .epoch
  | grays => exact mem0_U64 cfg10_R .grays
  | top => exact mem0_U64 cfg10_R .top
  | pin q => exact mem0_U64 cfg10_R (.pin q)
  | entry q i => exact mem0_U64 cfg10_R (.entry q i)
  | view q => exact mem0_U64 cfg10_R (.view q)
  | start q => exact mem0_U64 cfg10_R (.start q)
  | link q => exact mem0_U64 cfg10_R (.link q)
  | body q i => exact mem0_U64 cfg10_R (.body q i)
theorem beg10_succ {n : Nat} (hn : n < cfg10.S) : cfg10.row (beg10 (n + 1)) = (cfg10.row (beg10 n)).set ((Wd.header n).pos cfg10) (hdN n).word := by
  rw [row_set (show (Wd.header n).ok cfg10 from hn)]
  apply row_congr
  intro w _
  unfold wset
  cases w with
  | header q =>
    simp only [beg10, Wd.header.injEq]
    by_cases h1 : q = n
    · subst h1; rw [if_pos (Nat.lt_succ_self _), if_pos rfl]
    · rw [if_neg h1]
      by_cases h2 : q < n
      · rw [if_pos (Nat.lt_succ_of_lt h2), if_pos h2]
      · rw [if_neg (by omega), if_neg h2]
  | _ => rfl
theorem beg10_zero : beg10 0 = mem0 cfg10 := by
  funext w; cases w <;> simp [beg10, mem0]

theorem begin10_loop {h0 : H} {cb bw : Nat} (ok : h0.ok) (hcb : h0.get cb = some (.cells cfg10.cs .rw)) (hne : cb ≠ bw) (w0 : h0.get bw = some (.cells ((cfg10.row (mem0 cfg10)).map (.int .u64)) .rw)) :
    ∀ (K : AX × List V × H → Option (V × H)) (Q : V × H → Prop), (∀ g, Fr [bw] h0 g → g.get bw = some (.cells ((cfg10.row (beg10 cfg10.S)).map (.int .u64)) .rw) → Ev (K (.exit 0, S.withylaw10_begin_c1_O (.ptr cb 0) (.sl bw 0 cfg10.size (.ex cfg10.size)), g)) Q) →
    Ev ((W.loop (S.withylaw10_begin_c1_B W) (S.withylaw10_begin_c1_E (.ptr cb 0) (.sl bw 0 cfg10.size (.ex cfg10.size)) (.int .i64 0)) h0).bind K) Q := by
  intro K Q hK
  have hcs : cfg10.cs = [.int .i64 40, .int .i64 3, .int .i64 1, .int .i64 1, .int .i64 9, .int .i64 0] := rfl
  have hv : cfg10.v = .agg [.int .i64 40, .int .i64 3, .int .i64 1, .int .i64 1, .int .i64 9, .int .i64 0] := rfl
  rw [hcs] at hcb
  refine loop_ev (α := Nat) (fun i => S.withylaw10_begin_c1_E (.ptr cb 0) (.sl bw 0 cfg10.size (.ex cfg10.size)) (.int .i64 i))
    (fun i g => i ≤ cfg10.S ∧ Fr [bw] h0 g ∧ g.get bw = some (.cells ((cfg10.row (beg10 i)).map (.int .u64)) .rw)) (fun i _ => cfg10.S - i)
    (fun r => r.1 = .exit 0 ∧ r.2.1 = S.withylaw10_begin_c1_O (.ptr cb 0) (.sl bw 0 cfg10.size (.ex cfg10.size)) ∧ Fr [bw] h0 r.2.2 ∧ r.2.2.get bw = some (.cells ((cfg10.row (beg10 cfg10.S)).map (.int .u64)) .rw)) 0 rfl ⟨Nat.zero_le _, .refl ok, by rw [beg10_zero]; exact w0⟩ ?_ ?_
  rotate_left
  · rintro ⟨x, env, g⟩ ⟨rfl, rfl, fg, wg⟩
    exact hK g fg wg
  rintro i g ⟨hi0, fg, wg⟩
  rw [S.withylaw10_begin_c1_eq]
  have hcg := fg.get ok hcb (by simp [hne])
  have hs : cfg10.S = 40 := rfl
  by_cases hic : i < cfg10.S
  · have hd1 : decide ((i : Int) < 40) = true := by rw [hs] at hic; exact decide_eq_true (by omega)
    have w1 : wr .i64 ((i : Int) + 1) = ((i + 1 : Nat) : Int) := by rw [hs] at hic; rw [wr64 (by omega) (by omega)]; rfl
    have hmu : cfg10.S - (i + 1) < cfg10.S - i := Nat.sub_lt_sub_left hic (Nat.lt_succ_self i)
    have hat := at10 (l := .header i) hic
    have hat' : ∀ h, C 131 [.agg [.int .i64 40, .int .i64 3, .int .i64 1, .int .i64 1, .int .i64 9, .int .i64 0], .str ⟨⟨[104, 101, 97, 100, 101, 114]⟩⟩, .int .i64 (i : Int), .int .i64 0] h = some (.int .i64 ((Wd.header i).pos cfg10 : Nat), h) := hat
    have hix : indexAV 1 (.sl bw 0 cfg10.size (.ex cfg10.size)) (.int .i64 ((Wd.header i).pos cfg10 : Nat)) = some (.ptr bw ((Wd.header i).pos cfg10)) := sl_idx1 (pos_lt (show (Wd.header i).ok cfg10 from hic))
    have hbl : bw < g.next := fg.lt (ok.lt w0)
    have hbn : bw ≠ g.next := Nat.ne_of_lt hbl
    have hcn : cb ≠ g.next := Nat.ne_of_lt (fg.lt (ok.lt hcb))
    have hPk := fun h => refPack_spec (hdN_right i) h
    have hpl : (Wd.header i).pos cfg10 < (cfg10.row (beg10 i)).length := by rw [row_length]; exact pos_lt (show (Wd.header i).ok cfg10 from hic)
    have hle : decide ((Wd.header i).pos cfg10 + 1 ≤ ((cfg10.row (beg10 i)).map (V.int .u64)).length) = true := decide_eq_true (by rw [List.length_map]; exact hpl)
    have hne0 : decide (Bk.rw = Bk.ro) = false := rfl
    have fr3 : ∀ b1 b2 b3, Fr [bw] h0 (((g.new b1).put g.next b2).put bw b3) := fun b1 b2 b3 => ((fg.new _).put (.inr fg.le) (Nat.lt_succ_self _) _).put (.inl (by simp)) (Nat.lt_succ_of_lt hbl) _
    have hset := beg10_succ hic
    by_cases h4 : 4 < i
    · have h4' : decide ((4 : Int) < (i : Int)) = true := decide_eq_true (by omega)
      have e4 : hdN i = ⟨2, 0, false, 0, 0, 0⟩ := by unfold hdN; rw [if_pos h4]
      rw [e4] at hPk hset
      simp only [Hdr.cs] at hPk
      simp only [S.withylaw10_begin_c1_S, ptrAt_ptr, Option.bind_some, Option.map_some, ld1_get', ldN_get', st_get', get_put', get_new', put_put', ldB_cells, ldNB_cells, stB_cells, List.getElem?_cons_zero, Nat.zero_add, Nat.add_zero, Nat.reduceAdd, Nat.reduceLeDiff, V.one, V.cells, V.beq, V.beqs, ckB_some, asI_int, List.length_cons, List.length_nil, Nat.beq_refl, List.all_cons, List.all_nil, Bool.not_true, Bool.or_self, Bool.and_self, decide_true, decide_false, if_true, if_false, splice, List.take_succ_cons, List.take_zero, List.drop_succ_cons, List.drop_zero, List.cons_append, List.nil_append, reduceCtorEq, W_call, hcg, hd1, h4', w1, hcn, hbn, hat', hPk, hix, BEq.rfl, wg, hle]
      refine Ev.some (.inl ⟨i + 1, rfl, rfl, ⟨hic, fr3 _ _ _, ?_⟩, hmu⟩)
      rw [get_put_self, row_splice hpl, hset]
    · have h4' : decide ((4 : Int) < (i : Int)) = false := decide_eq_false (by omega)
      have e4 : hdN i = ⟨1, 0, false, 3, 0, 0⟩ := by unfold hdN; rw [if_neg h4]
      rw [e4] at hPk hset
      simp only [Hdr.cs] at hPk
      simp only [S.withylaw10_begin_c1_S, ptrAt_ptr, Option.bind_some, Option.map_some, ld1_get', ldN_get', st_get', get_put', get_new', ldB_cells, ldNB_cells, stB_cells, List.getElem?_cons_zero, Nat.zero_add, Nat.add_zero, Nat.reduceAdd, Nat.reduceLeDiff, V.one, V.cells, V.beq, V.beqs, ckB_some, asI_int, List.length_cons, List.length_nil, Nat.beq_refl, List.all_cons, List.all_nil, Bool.not_true, Bool.or_self, Bool.and_self, decide_true, decide_false, if_true, if_false, splice, List.take_succ_cons, List.take_zero, List.drop_succ_cons, List.drop_zero, List.cons_append, List.nil_append, reduceCtorEq, W_call, hcg, hd1, h4', w1, hcn, hbn, hat', hPk, hix, BEq.rfl, wg, hle]
      refine Ev.some (.inl ⟨i + 1, rfl, rfl, ⟨hic, fr3 _ _ _, ?_⟩, hmu⟩)
      rw [get_put_self, row_splice hpl, hset]
  · have : i = cfg10.S := Nat.le_antisymm hi0 (Nat.le_of_not_lt hic)
    subst this
    have hd1 : decide (((cfg10.S : Nat) : Int) < 40) = false := rfl
    simp only [S.withylaw10_begin_c1_S, ptrAt_ptr, Option.bind_some, Option.map_some, ld1_get', ldN_get', st_get', get_put', get_new', put_put', ldB_cells, ldNB_cells, stB_cells, List.getElem?_cons_zero, Nat.zero_add, Nat.add_zero, Nat.reduceAdd, Nat.reduceLeDiff, V.one, V.cells, asI_int, List.length_cons, List.length_nil, Nat.beq_refl, List.all_cons, List.all_nil, Bool.not_true, Bool.or_self, Bool.and_self, decide_true, decide_false, if_true, splice, List.take_succ_cons, List.take_zero, List.drop_succ_cons, List.drop_zero, List.cons_append, List.nil_append, reduceCtorEq, W_call, hcg, hd1]
    exact Ev.some (.inr ⟨by simp, rfl, rfl, fg, wg⟩)

/-- A world of layer 10's laws, at its begin. -/
structure World10 (h : H) (w : Nat) (A : Adr) (f : Wd → Int) (n : Int) (B : BookT) : Prop where
  own : h.get w = some (.cells [.int .i64 40, .int .i64 3, .int .i64 1, .int .i64 1, .int .i64 9, .int .i64 0, .ptr A.p 0, .ptr A.bk 0, .int .i64 5, .nilsl, .bool false] .rw)
  out : w ∉ A.l
  base : Base h A cfg10 f n B

theorem begin10_spec {h : H} (ok : h.ok) : Ev (C 126 [] h) fun r => ∃ w A, r.1 = .ptr w 0 ∧ Fr [] h r.2 ∧ h.next ≤ w ∧ (∀ c ∈ A.l, h.next ≤ c) ∧ World10 r.2 w A (beg10 cfg10.S) 0 .new := by
  refine call_ev (af := F.withylaw10_begin) (by kernel_rfl) rfl ?_
  have hv : cfg10.v = .agg [.int .i64 40, .int .i64 3, .int .i64 1, .int .i64 1, .int .i64 9, .int .i64 0] := rfl
  have hcs : (Blk.cells cfg10.cs .rw) = .cells [.int .i64 40, .int .i64 3, .int .i64 1, .int .i64 1, .int .i64 9, .int .i64 0] .rw := rfl
  have hc := config10
  obtain ⟨g0, bw, e0, f0, n0, n1, w0⟩ := Memory_spec cfg10_R ((ok.new (.cells [.int .i64 0, .int .i64 0, .int .i64 0, .int .i64 0, .int .i64 0, .int .i64 0] .rw)).put (Nat.lt_succ_self _) (some (.cells cfg10.cs .rw)))
  have hcfg : g0.get h.next = some (.cells [.int .i64 40, .int .i64 3, .int .i64 1, .int .i64 1, .int .i64 9, .int .i64 0] .rw) := f0.get ((ok.new (.cells [.int .i64 0, .int .i64 0, .int .i64 0, .int .i64 0, .int .i64 0, .int .i64 0] .rw)).put (Nat.lt_succ_self _) (some (.cells [.int .i64 40, .int .i64 3, .int .i64 1, .int .i64 1, .int .i64 9, .int .i64 0] .rw))) (get_put_self _ _ _) (by simp)
  have hfr0 : Fr [] h g0 := (((Fr.refl ok).new (.cells [.int .i64 0, .int .i64 0, .int .i64 0, .int .i64 0, .int .i64 0, .int .i64 0] .rw)).put (.inr (Nat.le_refl _)) (Nat.lt_succ_self _) (some (.cells [.int .i64 40, .int .i64 3, .int .i64 1, .int .i64 1, .int .i64 9, .int .i64 0] .rw))).trans' f0
  have n0 : h.next + 1 ≤ bw := n0
  rw [hv] at e0 hc
  rw [hcs] at e0
  rw [S.withylaw10_begin_eq]
  simp only [S.withylaw10_begin, Option.bind_some, Option.map_some, ldN_get', st_get', get_put', get_new', ldNB_cells, stB_cells, Nat.zero_add, Nat.reduceAdd, Nat.reduceLeDiff, V.one, V.cells, List.length_cons, List.length_nil, Nat.beq_refl, List.all_cons, List.all_nil, Bool.not_true, Bool.false_or, Bool.or_self, Bool.and_self, decide_true, decide_false, if_true, splice, List.take_succ_cons, List.take_zero, List.drop_succ_cons, List.drop_zero, List.cons_append, List.nil_append, reduceCtorEq, W_call, hc, e0]
  refine begin10_loop f0.ok hcfg (by omega) w0 _ _ ?_
  intro g fg wg
  rw [S.withylaw10_begin_c1_e0_eq]
  have o1 := fg.get f0.ok hcfg (by simp; omega)
  have hrow : RowIs g.get (.sl bw 0 cfg10.size (.ex cfg10.size)) (cfg10.row (beg10 cfg10.S)) := ⟨by rw [row_length]; decide, .inr ⟨bw, _, _, by rw [row_length], wg⟩⟩
  have hlen := row_length cfg10 (beg10 cfg10.S)
  have hM := memOf_spec (x := .sl bw 0 cfg10.size (.ex cfg10.size)) (ws := cfg10.row (beg10 cfg10.S)) fg.ok hrow (by intro q; rw [q] at hlen; exact absurd hlen (by decide)) (by rw [hlen]; decide) (row_U64 (beg10_U64 _))
  simp only [S.withylaw10_begin_c1_e0, Option.bind_some, ldN_get', ldNB_cells, Nat.zero_add, Nat.reduceAdd, Nat.reduceLeDiff, V.cells, List.length_cons, List.length_nil, Nat.beq_refl, Bool.and_true, Bool.true_and, Bool.and_self, decide_true, splice, List.take_succ_cons, List.take_zero, List.drop_succ_cons, List.drop_zero, List.cons_append, List.nil_append, fill, opd, boxc, W_call, o1]
  refine Ev.bind hM ?_
  rintro ⟨v1, g1⟩ ⟨p, q, rfl, F1, p1, p2, M1⟩
  dsimp only at F1 M1 ⊢
  have o2 := F1.get fg.ok o1 (by simp)
  have ok1 := F1.ok
  simp only [ldNB_cells, Nat.zero_add, Nat.reduceAdd, Nat.reduceLeDiff, V.beq, V.beqs, ckB_some, List.length_cons, List.length_nil, Nat.beq_refl, Bool.and_true, Bool.and_self, decide_true, List.take_succ_cons, List.take_zero, List.drop_succ_cons, List.drop_zero, List.cons_append, List.nil_append, o2]
  refine Ev.bind (newBook_at ok1) ?_
  rintro ⟨v2, g2⟩ ⟨b, rfl, F2, m1, m2, n1, n2, n3, n4, n5, n6, K⟩
  dsimp only at F2 K ⊢
  have o3 := F2.get ok1 o2 (by simp)
  have ok2 := F2.ok
  simp only [Option.bind_some, ldNB_cells, Nat.zero_add, Nat.reduceAdd, Nat.reduceLeDiff, V.beq, V.beqs, ckB_some, List.length_cons, List.length_nil, Nat.beq_refl, Bool.and_self, decide_true, List.take_succ_cons, List.take_zero, List.drop_succ_cons, List.drop_zero, List.cons_append, List.nil_append, o3]
  obtain ⟨_, Mo⟩ := M1.own
  have lp := ok1.lt Mo
  obtain ⟨kk, _, Mr⟩ := M1.row
  have lq := ok1.lt Mr
  have Fg : Fr [] h g := hfr0.trans fg (by intro c hc; simp only [List.mem_singleton] at hc; subst hc; right; omega)
  have F12 : Fr [] h g2 := (Fg.trans F1 (by simp)).trans F2 (by simp)
  have lg : h.next ≤ g.next := Fg.le
  have lg1 : g.next ≤ g1.next := F1.le
  have l2 := F2.le
  have Fn : Fr [] g2 (g2.new (.cells [.int .i64 40, .int .i64 3, .int .i64 1, .int .i64 1, .int .i64 9, .int .i64 0, .ptr p 0, .ptr b 0, .int .i64 5, .nilsl, .bool false] .rw)) := (Fr.refl ok2).new _
  have M2 := (M1.fr ok1 F2 (by simp) (by simp)).fr ok2 Fn (by simp) (by simp)
  have K2 := K.fr ok2 Fn (by simp) (by simp) (by simp)
  have hne := M1.ne
  have hbl : b < g2.next := ok2.lt K.own
  obtain ⟨e1, K1, _⟩ := K.born
  obtain ⟨e2, K3, _⟩ := K.turned
  have hm1 := ok2.lt K1
  have hm2 := ok2.lt K3
  refine Ev.some ⟨g2.next, ⟨p, q, b, m1, m2⟩, rfl, F12.new _, Nat.le_trans lg (Nat.le_trans lg1 l2), ?_, ⟨get_new_self _ _, ?_, ⟨?_, ⟨_, M2⟩, K2⟩⟩⟩
  · unfold Adr.l
    simp only [List.mem_cons, List.not_mem_nil, or_false, forall_eq_or_imp, forall_eq]
    refine ⟨?_, ?_, ?_, ?_, ?_⟩ <;> omega
  · unfold Adr.l
    simp only [List.mem_cons, List.not_mem_nil, or_false, not_or]
    refine ⟨?_, ?_, ?_, ?_, ?_⟩ <;> omega
  · unfold Adr.l
    simp only [List.nodup_cons, List.mem_cons, List.not_mem_nil, or_false, not_or, not_false_eq_true, List.nodup_nil, and_true]
    refine ⟨⟨hne, ?_, ?_, ?_⟩, ⟨?_, ?_, ?_⟩, ⟨n1, n2⟩, n3⟩ <;> omega
end Wm
end

section
/- Layer 10's laws of one machine alone: values' slots, words that are laid. -/
namespace Wm
attribute [local congr] bind_congr1
attribute [local irreducible] wr

theorem slot10 {v : Int} (h0 : -1 ≤ v) (h1 : v ≤ 100) (h : H) : C 129 [.int .i64 v] h = some (.int .i64 (if v < 0 then -1 else v + 1), h) := by
  refine call_closed (af := F.withylaw10_slot) (by kernel_rfl) rfl (by rfl) (by rfl) h ?_
  rw [S.withylaw10_slot_eq]
  by_cases hv : v < 0
  · simp only [S.withylaw10_slot, Int.reduceNeg, decide_true, if_true, hv]
    exact Ev.some rfl
  · have w : wr .i64 (v + 1) = v + 1 := wr64 (by omega) (by omega)
    simp only [S.withylaw10_slot, Int.reduceNeg, decide_false, if_false, hv, w]
    exact Ev.some rfl

theorem laid10 {h : H} {A : Adr} {k : Cfg} {f : Wd → Int} {n : Int} {B : BookT} (E : Base h A k f n B) (ok : h.ok) {l : Wd} (hl : l.ok k) {v : Int} (hv : U64 v) :
    Ev (C 130 [.ptr A.p 0, .int .i64 (l.pos k : Nat), .int .u64 v] h) fun r => r.1 = .ptr A.p 0 ∧ Fr [A.p, A.pw] h r.2 ∧ Base r.2 A k (wset f l v) (wr .i64 (n + 1)) B := by
  refine call_ev (af := F.withylaw10_laid) (by kernel_rfl) rfl ?_
  rw [S.withylaw10_laid_eq]
  simp only [S.withylaw10_laid, W_call]
  refine Ev.bind (E.store ok hl hv) ?_
  rintro ⟨x, g⟩ ⟨_, F1, E1⟩
  exact Ev.some ⟨rfl, F1, E1⟩
end Wm
end

section
/- Fields' machines: a step of a Lay. -/
namespace Wm
attribute [local congr] bind_congr1
attribute [local irreducible] wr

theorem wr_plus1 {o : Option Nat} (h : ∀ q, o = some q → q ≤ 1000) : wr .u64 (wr .i64 (sl o + 1)) = sl o + 1 ∧ U64 (sl o + 1) := by
  have hb : -1 ≤ sl o ∧ sl o ≤ 1000 := by
    cases o with
    | none => exact ⟨Int.le_refl _, by decide⟩
    | some q => have := h q rfl; unfold sl; simp only; omega
  generalize sl o = x at hb
  rw [wr64 (by omega) (by omega), wru64 (by omega) (by omega)]
  exact ⟨rfl, by unfold U64; omega⟩
theorem wr_rec1 {q : Nat} (h : q ≤ 1000) : wr .u64 (wr .i64 ((q : Int) + 1)) = (q : Int) + 1 ∧ U64 ((q : Int) + 1) := by
  rw [wr64 (by omega) (by omega), wru64 (by omega) (by omega)]
  exact ⟨rfl, by unfold U64; omega⟩

theorem LayAt.step {h : H} (ok : h.ok) {A : Adr} {k : Cfg} (hr : k.R = true) {f : Wd → Int} {n : Int} {B : BookT} {b : Nat} {s : Lay} {L : List Nat} (Z : LayAt h b k A.bk s L) (E : Base h A k f n B) (hb : ∀ c ∈ L, c ∉ A.l) :
    Ev (C 133 [.ptr b 0, .ptr A.p 0] h) fun r => r.1 = .bool (decide ((s.step k f B).1.next = 6)) ∧ ∃ L', Fr (L ++ A.l) h r.2 ∧ LayAt r.2 b k A.bk (s.step k f B).1 L' ∧ (∀ c ∈ L', c ∈ L ∨ h.next ≤ c) ∧ Base r.2 A k (s.step k f B).2.1 (if s.works then wr .i64 (n + 1) else n) (s.step k f B).2.2 := by
  refine call_ev (af := F.field_Lay_Step) (by kernel_rfl) rfl ?_
  rw [S.field_Lay_Step_eq]
  obtain ⟨hbL, hlt⟩ := Z.mem ok
  have hbA := hb b hbL
  have hbl := hlt b hbL
  obtain ⟨⟨nb, r0, L0, shv, stv, LX, So, v1, v2, v3, v4, N, hr0, X, hbL0, hbLX, hLX0, rfl⟩, hrec, he, hone⟩ := Z
  have hb' := hbA
  unfold Adr.l at hb'
  simp only [List.mem_cons, List.not_mem_nil, or_false, not_or] at hb'
  obtain ⟨nb1, nb2, nb3, nb4, nb5⟩ := hb'
  have hAb : ∀ c ∈ A.l, c ∉ [b] := fun c hc h => hbA (by simp only [List.mem_singleton] at h; rw [← h]; exact hc)
  have hLb : ∀ c ∈ L0, c ∉ [b] := fun c hc h => hbL0 (by simp only [List.mem_singleton] at h; rw [← h]; exact hc)
  have hXb : ∀ c ∈ LX, c ∉ [b] := fun c hc h => hbLX (by simp only [List.mem_singleton] at h; rw [← h]; exact hc)
  have hL0A : ∀ c ∈ L0, c ∉ A.l := fun c hc => hb c (by simp [hc])
  have hLXA : ∀ c ∈ LX, c ∉ A.l := fun c hc => hb c (by simp [hc])
  have hmb : ∀ {g g' : H}, Fr [b] g g' → Fr (b :: (L0 ++ LX) ++ A.l) g g' := fun F => F.mono (by simp)
  have hmp : ∀ {g g' : H}, Fr [A.p, A.pw] g g' → Fr (b :: (L0 ++ LX) ++ A.l) g g' := fun F => F.mono (by unfold Adr.l; simp)
  have hpL : ∀ {c : Nat}, c ∉ A.l → c ∉ [A.p, A.pw] := fun hc => by unfold Adr.l at hc; simp only [List.mem_cons, List.not_mem_nil, or_false, not_or] at hc ⊢; exact ⟨hc.1, hc.2.1⟩
  have nbL := (N.mem ok).1
  have hnbb : nb ≠ b := fun h => hbL0 (h ▸ nbL)
  have hnbl := (N.mem ok).2 nb nbL
  have hbn : b ≠ h.next := Nat.ne_of_lt hbl
  have hnbn : nb ≠ h.next := Nat.ne_of_lt hnbl
  have hrm := (Cfg.bounds hr).2.1
  have hS64 := (Cfg.bounds hr).1.2
  have h0r : 0 < k.room := Nat.lt_of_lt_of_le (by decide) hrm.1
  have h2r : 2 < k.room := Nat.lt_of_lt_of_le (by decide) hrm.1
  obtain ⟨⟨sv, No, Ns⟩, Nf, None1, Nr, Nr0⟩ := id N
  -- the heap behind the copy of the config
  let z : Blk := .cells [.int .i64 0, .int .i64 0, .int .i64 0, .int .i64 0, .int .i64 0, .int .i64 0] .rw
  let cf : Option Blk := some (.cells [.int .i64 k.s, .int .i64 k.a, .int .i64 k.c, .int .i64 k.hd, .int .i64 k.g, .int .i64 k.st] .rw)
  have F0 : Fr [] h ((h.new z).put h.next cf) := ((Fr.refl ok).new _).put (.inr (Nat.le_refl _)) (Nat.lt_succ_self _) _
  have C0 : ((h.new z).put h.next cf).get h.next = cf := get_put_self _ _ _
  have hF0 : Fr (b :: (L0 ++ LX) ++ A.l) h ((h.new z).put h.next cf) := F0.mono (by simp)
  have So0 := F0.get ok So (by simp)
  have No0 := F0.get ok No (by simp)
  have N0 := N.fr ok F0 (by simp)
  have X0 := X.fr ok F0 (by simp)
  have E0 := E.fr ok F0 (by simp)
  have hcb : h.next ≠ b := hbn.symm
  have hcA : ∀ c ∈ A.l, c ≠ h.next := fun c hc => Nat.ne_of_lt (E.lt ok c hc)
  have hbl0 : b < ((h.new z).put h.next cf).next := F0.lt hbl
  obtain ⟨laid, point, nw, rec, expect, e, shade, stamp, next⟩ := s
  unfold Lay.cs at So
  unfold Lay.step Lay.works
  simp only at So So0 N hr0 X hrec he hone N0 X0 No No0 Nf Nr Nr0 ⊢
  by_cases c0 : next = 0
  · subst c0
    have hLX : LX = [] := by
      rcases X with ⟨h0, _⟩ | ⟨h0, _⟩ | ⟨_, _, h0⟩
      · cases h0
      · cases h0
      · exact h0
    subst hLX
    simp only [S.field_Lay_Step, nilc_ptr, eqPtr_ptr, ptrAt_ptr, Option.bind_some, Option.map_some, ld1_get', ldN_get', st_get', get_put', get_new', ldB_cells, ldNB_cells, stB_cells, List.getElem?_cons_zero, List.getElem?_cons_succ, Nat.zero_add, Nat.add_zero, Nat.reduceAdd, Nat.reduceLeDiff, Int.reduceEq, Int.reduceNeg, V.one, V.cells, asI_int, List.length_cons, List.length_nil, Nat.beq_refl, List.all_cons, List.all_nil, Bool.and_true, Bool.true_and, Bool.false_and, Bool.not_true, Bool.or_false, Bool.false_or, Bool.or_self, Bool.and_self, decide_true, decide_false, if_true, if_false, splice, List.take_succ_cons, List.take_zero, List.drop_succ_cons, List.drop_zero, List.cons_append, List.nil_append, reduceCtorEq, fill, opd, boxc, eqV, W_call, So, No, hbn, hnbn]
    refine Ev.bind (N0.step F0.ok hr E0 hL0A) ?_
    rintro ⟨v, g⟩ ⟨rfl, L', r1, F1, N1, hL', E1⟩
    dsimp only at F1 N1 E1
    have hle0 : h.next ≤ ((h.new z).put h.next cf).next := F0.le
    have G1 := F1.get F0.ok So0 (by simp only [List.mem_append, not_or]; exact ⟨hbL0, hbA⟩)
    have hb1 : b < g.next := F1.lt hbl0
    have hbL' : b ∉ L' := fun hc => (hL' b hc).elim hbL0 (fun h => absurd hbl0 (Nat.not_lt_of_le h))
    have hLb' : ∀ c ∈ L', c ∉ [b] := fun c hc h => hbL' (by simp only [List.mem_singleton] at h; rw [← h]; exact hc)
    have F1' : Fr (b :: (L0 ++ []) ++ A.l) h g := hF0.trans' (F1.mono (by intro c hc; simp only [List.append_nil]; exact .inl (List.mem_cons_of_mem _ hc)))
    have hsub : ∀ c ∈ b :: (L' ++ []), c ∈ b :: (L0 ++ []) ∨ h.next ≤ c := fun c hc => by
      simp only [List.append_nil] at hc ⊢
      rcases List.mem_cons.mp hc with rfl | hc
      · exact .inl (by simp)
      · exact (hL' c hc).imp (fun h => by simp [h]) (fun h => Nat.le_trans hle0 h)
    unfold Lay.cs at G1
    simp only at G1
    by_cases hd : (nw.step k f B).1.next = 2
    · obtain ⟨⟨sv1, No1, Ns1⟩, Nf1, None11, Nr1, Nr01⟩ := id N1
      have hr1 : r1 = sl (nw.step k f B).1.rec' := Nr01.resolve_left (by rw [hd]; decide)
      have nbL1 := (N1.mem F1.ok).1
      have hnbb1 : nb ≠ b := fun h => hbL' (h ▸ nbL1)
      have F3 : ∀ x, Fr [b] g (g.put b x) := fun x => (Fr.refl F1.ok).put (.inl (by simp)) hb1 _
      unfold Lay.headed
      simp only
      by_cases hx1 : -1 ≤ expect
      · cases hrc : (nw.step k f B).1.rec' with
        | some q =>
          have hsl : decide ((0 : Int) ≤ sl (some q)) = true := decide_eq_true (Int.natCast_nonneg q)
          rw [hr1, hrc] at No1
          simp only [nilc_ptr, ptrAt_ptr, Option.bind_some, Option.map_some, ld1_get', get_put', put_put', ldB_cells, stB_cells, List.getElem?_cons_zero, List.getElem?_cons_succ, Nat.zero_add, Nat.reduceAdd, Nat.reduceLeDiff, Int.reduceEq, Int.reduceNeg, V.one, asI_int, asB_bool, List.length_cons, List.length_nil, List.all_cons, List.all_nil, Bool.not_true, Bool.or_self, Bool.and_self, decide_true, decide_false, if_true, if_false, splice, List.take_succ_cons, List.take_zero, List.drop_succ_cons, List.drop_zero, List.cons_append, List.nil_append, reduceCtorEq, hd, G1, No1, hx1, hsl, hnbb1, ne_eq, not_false_eq_true, and_self]
          exact Ev.some ⟨rfl, b :: (L' ++ []), F1'.trans' (hmb (F3 _)), ⟨⟨nb, r1, L', shv, stv, [], get_put_self _ _ _, v1, v2, v3, v4, N1.fr F1.ok (F3 _) hLb', fun _ => hr1, .inr (.inr ⟨by simp, by simp, rfl⟩), hbL', by simp, by simp, rfl⟩, hrec, he, fun _ => by simp [hrc]⟩, hsub, E1.fr F1.ok (F3 _) hAb⟩
        | none =>
          have hsl : decide ((0 : Int) ≤ sl none) = false := rfl
          rw [hr1, hrc] at No1
          by_cases hx0 : 0 ≤ expect
          · have hrf : ∀ x, C 307 [.ptr b 0] (g.put b (some (.cells (Lay.cs nb shv stv ⟨laid, point, (nw.step k f B).1, rec, expect, e, shade, stamp, x⟩) .rw))) = _ := fun x => layRefuse_spec (get_put_self _ _ _) v1 v2 (N1.fr F1.ok (F3 _) hLb') hr1 (E1.fr F1.ok (F3 _) hAb)
            have hrf2 := hrf 2
            unfold Lay.cs Lay.refuse at hrf2
            simp only at hrf2
            simp only [nilc_ptr, ptrAt_ptr, Option.bind_some, Option.map_some, ld1_get', get_put', put_put', ldB_cells, stB_cells, List.getElem?_cons_zero, List.getElem?_cons_succ, Nat.zero_add, Nat.reduceAdd, Nat.reduceLeDiff, Int.reduceEq, Int.reduceNeg, V.one, asI_int, asB_bool, List.length_cons, List.length_nil, List.all_cons, List.all_nil, Bool.not_true, Bool.or_self, Bool.and_self, decide_true, decide_false, if_true, if_false, splice, List.take_succ_cons, List.take_zero, List.drop_succ_cons, List.drop_zero, List.cons_append, List.nil_append, reduceCtorEq, hd, G1, No1, hx1, hx0, hsl, hnbb1, hrf2, ne_eq, not_true_eq_false, and_false]
            exact Ev.some ⟨rfl, b :: (L' ++ []), F1'.trans' (hmb (F3 _)), ⟨⟨nb, r1, L', shv, stv, [], get_put_self _ _ _, v1, v2, v3, v4, N1.fr F1.ok (F3 _) hLb', fun _ => hr1, .inr (.inr ⟨by simp [Lay.refuse], by simp [Lay.refuse], rfl⟩), hbL', by simp, by simp, rfl⟩, hrec, he, by simp [Lay.refuse]⟩, hsub, E1.fr F1.ok (F3 _) hAb⟩
          · simp only [nilc_ptr, ptrAt_ptr, Option.bind_some, Option.map_some, ld1_get', get_put', put_put', ldB_cells, stB_cells, List.getElem?_cons_zero, List.getElem?_cons_succ, Nat.zero_add, Nat.reduceAdd, Nat.reduceLeDiff, Int.reduceEq, Int.reduceNeg, V.one, asI_int, asB_bool, List.length_cons, List.length_nil, List.all_cons, List.all_nil, Bool.not_true, Bool.or_self, Bool.and_self, decide_true, decide_false, if_true, if_false, splice, List.take_succ_cons, List.take_zero, List.drop_succ_cons, List.drop_zero, List.cons_append, List.nil_append, reduceCtorEq, hd, G1, No1, hx1, hx0, hsl, hnbb1, ne_eq, not_true_eq_false, and_false]
            exact Ev.some ⟨rfl, b :: (L' ++ []), F1'.trans' (hmb (F3 _)), ⟨⟨nb, r1, L', shv, stv, [], get_put_self _ _ _, v1, v2, v3, v4, N1.fr F1.ok (F3 _) hLb', fun _ => hr1, .inr (.inr ⟨by simp, by simp, rfl⟩), hbL', by simp, by simp, rfl⟩, hrec, he, by simp⟩, hsub, E1.fr F1.ok (F3 _) hAb⟩
      · have hx0 : ¬ 0 ≤ expect := fun h => hx1 (Int.le_trans (by decide) h)
        simp only [nilc_ptr, ptrAt_ptr, Option.bind_some, Option.map_some, ld1_get', get_put', put_put', ldB_cells, stB_cells, List.getElem?_cons_zero, List.getElem?_cons_succ, Nat.zero_add, Nat.reduceAdd, Nat.reduceLeDiff, Int.reduceEq, Int.reduceNeg, V.one, asI_int, asB_bool, List.length_cons, List.length_nil, List.all_cons, List.all_nil, Bool.not_true, Bool.or_self, Bool.and_self, decide_true, decide_false, if_true, if_false, splice, List.take_succ_cons, List.take_zero, List.drop_succ_cons, List.drop_zero, List.cons_append, List.nil_append, reduceCtorEq, hd, G1, hx1, hx0, false_and]
        exact Ev.some ⟨rfl, b :: (L' ++ []), F1'.trans' (hmb (F3 _)), ⟨⟨nb, r1, L', shv, stv, [], get_put_self _ _ _, v1, v2, v3, v4, N1.fr F1.ok (F3 _) hLb', fun _ => hr1, .inr (.inr ⟨by simp, by simp, rfl⟩), hbL', by simp, by simp, rfl⟩, hrec, he, by simp⟩, hsub, E1.fr F1.ok (F3 _) hAb⟩
    · simp only [nilc_ptr, ptrAt_ptr, Option.bind_some, Option.map_some, ld1_get', get_put', put_put', ldB_cells, stB_cells, List.getElem?_cons_zero, List.getElem?_cons_succ, Nat.zero_add, Nat.reduceAdd, Nat.reduceLeDiff, Int.reduceEq, Int.reduceNeg, V.one, asI_int, asB_bool, List.length_cons, List.length_nil, List.all_cons, List.all_nil, Bool.not_true, Bool.not_false, Bool.or_self, Bool.and_self, decide_true, decide_false, if_true, if_false, splice, List.take_succ_cons, List.take_zero, List.drop_succ_cons, List.drop_zero, List.cons_append, List.nil_append, reduceCtorEq, hd, G1]
      exact Ev.some ⟨rfl, b :: (L' ++ []), F1', ⟨⟨nb, r1, L', shv, stv, [], by unfold Lay.cs; exact G1, v1, v2, v3, v4, N1, by simp, .inr (.inr ⟨by simp, by simp, rfl⟩), hbL', by simp, by simp, rfl⟩, hrec, he, by simp⟩, hsub, E1⟩
  · have hr0' := hr0 c0
    have put0 : ∀ x, Fr [b] ((h.new z).put h.next cf) (((h.new z).put h.next cf).put b x) := fun x => (Fr.refl F0.ok).put (.inl (by simp)) hbl0 _
    have E0p : ∀ x, Base (((h.new z).put h.next cf).put b x) A k f n B := fun x => E0.fr F0.ok (put0 x) hAb
    have N0p : ∀ x, NewestAt (((h.new z).put h.next cf).put b x) nb k A.bk nw r0 L0 := fun x => N0.fr F0.ok (put0 x) hLb
    have hcfp : ∀ x, (((h.new z).put h.next cf).put b x).get h.next = cf := fun x => by rw [get_put_ne hcb]; exact C0
    have hN : ∀ {g g' : H}, g.ok → NewestAt g nb k A.bk nw r0 L0 → Fr [A.p, A.pw] g g' → NewestAt g' nb k A.bk nw r0 L0 := fun okg Ng F => Ng.fr okg F (fun c hc => hpL (hL0A c hc))
    have hnp : h.next ∉ [A.p, A.pw] := by
      simp only [List.mem_cons, List.not_mem_nil, or_false, not_or]
      exact ⟨(hcA A.p (by unfold Adr.l; simp)).symm, (hcA A.pw (by unfold Adr.l; simp)).symm⟩
    have hnmr : nb ∉ [A.p, A.pw] := hpL (hL0A nb nbL)
    have hbmr : b ∉ [A.p, A.pw] := hpL hbA
    have hv : k.v = .agg [.int .i64 k.s, .int .i64 k.a, .int .i64 k.c, .int .i64 k.hd, .int .i64 k.g, .int .i64 k.st] := rfl
    have e0 : ((0 : Nat) : Int) = 0 := rfl
    have e2 : ((2 : Nat) : Int) = 2 := rfl
    rw [hr0'] at No No0
    by_cases c1 : next = 1
    · subst c1
      have hLX : LX = [] := by
        rcases X with ⟨h0, _⟩ | ⟨h0, _⟩ | ⟨_, _, h0⟩
        · cases h0
        · cases h0
        · exact h0
      subst hLX
      obtain ⟨q, hnq⟩ : ∃ q, nw.rec' = some q := Option.ne_none_iff_exists'.mp (hone rfl)
      have hq := Nr q hnq
      rw [hnq] at No No0
      have hbd : ∀ h, C 305 [.agg [.int .i64 k.s, .int .i64 k.a, .int .i64 k.c, .int .i64 k.hd, .int .i64 k.g, .int .i64 k.st], .int .i64 (sl (some q)), .int .i64 0] h = some (.int .i64 ((Wd.body q 0).pos k : Nat), h) := fun h => body_at hr hq h0r h
      have hwo : (Wd.body q 0).ok k := ⟨hq, h0r⟩
      simp only [S.field_Lay_Step, nilc_ptr, eqPtr_ptr, ptrAt_ptr, Option.bind_some, Option.map_some, ld1_get', ldN_get', st_get', get_put', get_new', ldB_cells, ldNB_cells, stB_cells, List.getElem?_cons_zero, List.getElem?_cons_succ, Nat.zero_add, Nat.add_zero, Nat.reduceAdd, Nat.reduceLeDiff, Int.reduceEq, Int.reduceNeg, V.one, V.cells, V.beq, V.beqs, ckB_some, asI_int, List.length_cons, List.length_nil, Nat.beq_refl, List.all_cons, List.all_nil, Bool.and_true, Bool.false_and, Bool.not_true, Bool.or_false, Bool.false_or, Bool.or_self, Bool.and_self, decide_true, decide_false, if_true, if_false, splice, List.take_succ_cons, List.take_zero, List.drop_succ_cons, List.drop_zero, List.cons_append, List.nil_append, reduceCtorEq, fill, opd, boxc, eqV, W_call, So, No, hbn, hnbn, hnbb, hcb, hbd]
      refine Ev.bind ((E0p _).load (put0 _).ok hwo) ?_
      rintro ⟨v, g⟩ ⟨rfl, F1, E1⟩
      dsimp only at F1 E1
      have G1 := F1.get (put0 _).ok (get_put_self _ _ _) hbmr
      have Cg := F1.get (put0 _).ok (hcfp _) hnp
      have N1 := hN (put0 _).ok (N0p _) F1
      have hnm := namedS hr (E.u64 hwo)
      have hb1 : b < g.next := F1.lt hbl0
      have F1' : Fr (b :: (L0 ++ []) ++ A.l) h g := (hF0.trans' (hmb (put0 _))).trans' (hmp F1)
      have F3 : ∀ x, Fr [b] g (g.put b x) := fun x => (Fr.refl F1.ok).put (.inl (by simp)) hb1 _
      by_cases hx : sl (namedO k (f (.body q 0))) = expect
      · simp only [Option.bind_some, ldB_cells, ldNB_cells, List.getElem?_cons_zero, List.getElem?_cons_succ, Nat.zero_add, Nat.reduceAdd, Nat.reduceLeDiff, Int.reduceEq, V.one, V.beq, V.beqs, ckB_some, asI_int, List.length_cons, List.length_nil, Bool.not_true, Bool.and_self, decide_true, decide_false, if_true, List.take_succ_cons, List.take_zero, List.drop_zero, G1, Cg, hnm, hx, hnq]
        exact Ev.some ⟨rfl, b :: (L0 ++ []), F1', ⟨⟨nb, r0, L0, shv, stv, [], by unfold Lay.cs; exact G1, v1, v2, v3, v4, N1, fun _ => hr0', .inr (.inr ⟨by simp, by simp, rfl⟩), hbL0, by simp, by simp, rfl⟩, hrec, he, by simp⟩, fun c hc => .inl hc, E1⟩
      · have hrf := layRefuse_spec (s := ⟨laid, point, nw, rec, expect, e, shade, stamp, 2⟩) (nb := nb) (shv := shv) (stv := stv) (by unfold Lay.cs; exact G1) v1 v2 N1 hr0' E1
        unfold Lay.cs Lay.refuse at hrf
        simp only at hrf
        simp only [Option.bind_some, get_put', ldB_cells, ldNB_cells, List.getElem?_cons_zero, List.getElem?_cons_succ, Nat.zero_add, Nat.reduceAdd, Nat.reduceLeDiff, V.one, V.beq, V.beqs, ckB_some, asI_int, List.length_cons, List.length_nil, Bool.not_false, Bool.and_self, decide_true, decide_false, if_true, if_false, List.take_succ_cons, List.take_zero, List.drop_zero, G1, Cg, hnm, hx, hnq, hrf]
        exact Ev.some ⟨rfl, b :: (L0 ++ []), F1'.trans' (hmb (F3 _)), ⟨⟨nb, r0, L0, shv, stv, [], get_put_self _ _ _, v1, v2, v3, v4, N1.fr F1.ok (F3 _) hLb, fun _ => hr0', .inr (.inr ⟨by simp [Lay.refuse], by simp [Lay.refuse], rfl⟩), hbL0, by simp, by simp, rfl⟩, hrec, he, by simp [Lay.refuse]⟩, fun c hc => .inl hc, E1.fr F1.ok (F3 _) hAb⟩
    · by_cases c2 : next = 2
      · subst c2
        have hLX : LX = [] := by
          rcases X with ⟨h0, _⟩ | ⟨h0, _⟩ | ⟨_, _, h0⟩
          · cases h0
          · cases h0
          · exact h0
        subst hLX
        have hbd : ∀ h, C 305 [.agg [.int .i64 k.s, .int .i64 k.a, .int .i64 k.c, .int .i64 k.hd, .int .i64 k.g, .int .i64 k.st], .int .i64 (rec : Int), .int .i64 2] h = some (.int .i64 ((Wd.body rec 2).pos k : Nat), h) := fun h => body_at hr hrec h2r h
        have hwo : (Wd.body rec 2).ok k := ⟨hrec, h2r⟩
        obtain ⟨w1, w2⟩ := wr_plus1 (o := nw.rec') (fun q hq => Nat.le_of_lt (Nat.lt_of_lt_of_le (Nr q hq) (Nat.le_trans hS64 (by decide))))
        simp only [S.field_Lay_Step, nilc_ptr, eqPtr_ptr, ptrAt_ptr, Option.bind_some, Option.map_some, ld1_get', ldN_get', st_get', get_put', get_new', ldB_cells, ldNB_cells, stB_cells, List.getElem?_cons_zero, List.getElem?_cons_succ, Nat.zero_add, Nat.add_zero, Nat.reduceAdd, Nat.reduceLeDiff, Int.reduceEq, Int.reduceNeg, V.one, V.cells, V.beq, ckB_some, asI_int, List.length_cons, List.length_nil, Nat.beq_refl, List.all_cons, List.all_nil, Bool.and_true, Bool.false_and, Bool.not_true, Bool.or_false, Bool.false_or, Bool.or_self, Bool.and_self, decide_true, decide_false, if_true, if_false, splice, List.take_succ_cons, List.take_zero, List.drop_succ_cons, List.drop_zero, List.cons_append, List.nil_append, reduceCtorEq, fill, opd, boxc, eqV, W_call, So, No, hbn, hnbn, hnbb, hcb, hbd, w1]
        refine Ev.bind (E0.store F0.ok hwo w2) ?_
        rintro ⟨v, g⟩ ⟨rfl, F1, E1⟩
        dsimp only at F1 E1
        have G1 := F1.get F0.ok So0 hbmr
        have Cg := F1.get F0.ok C0 hnp
        have No1 := F1.get F0.ok No0 hnmr
        have N1 := hN F0.ok N0 F1
        have hb1 : b < g.next := F1.lt hbl0
        have F1' : Fr (b :: (L0 ++ []) ++ A.l) h g := hF0.trans' (hmp F1)
        have F3 : ∀ x, Fr [b] g (g.put b x) := fun x => (Fr.refl F1.ok).put (.inl (by simp)) hb1 _
        unfold Lay.cs at G1
        simp only at G1
        cases hnq : nw.rec' with
        | none =>
          have hsl : decide ((0 : Int) ≤ sl none) = false := rfl
          rw [hnq] at No1
          simp only [nilc_ptr, ptrAt_ptr, Option.bind_some, Option.map_some, ld1_get', get_put', ldB_cells, stB_cells, List.getElem?_cons_zero, List.getElem?_cons_succ, Nat.zero_add, Nat.reduceAdd, Nat.reduceLeDiff, Int.reduceEq, V.one, asI_int, List.length_cons, List.length_nil, List.all_cons, List.all_nil, Bool.not_true, Bool.or_self, Bool.and_self, decide_true, decide_false, if_true, if_false, splice, List.take_succ_cons, List.take_zero, List.drop_succ_cons, List.drop_zero, List.cons_append, List.nil_append, reduceCtorEq, G1, No1, hsl, hnbb]
          exact Ev.some ⟨rfl, b :: (L0 ++ []), F1'.trans' (hmb (F3 _)), ⟨⟨nb, r0, L0, shv, stv, [], get_put_self _ _ _, v1, v2, v3, v4, N1.fr F1.ok (F3 _) hLb, fun _ => hr0', .inr (.inr ⟨by simp, by simp, rfl⟩), hbL0, by simp, by simp, rfl⟩, hrec, he, by simp⟩, fun c hc => .inl hc, by rw [hnq] at E1; exact E1.fr F1.ok (F3 _) hAb⟩
        | some q =>
          have hq := Nr q hnq
          have hsl : decide ((0 : Int) ≤ sl (some q)) = true := decide_eq_true (Int.natCast_nonneg q)
          rw [hnq] at No1 E1
          cases hfe : fenced e with
          | false =>
            simp only [nilc_ptr, ptrAt_ptr, Option.bind_some, Option.map_some, ld1_get', get_put', ldB_cells, stB_cells, List.getElem?_cons_zero, List.getElem?_cons_succ, Nat.zero_add, Nat.reduceAdd, Nat.reduceLeDiff, Int.reduceEq, V.one, asI_int, asB_bool, List.length_cons, List.length_nil, List.all_cons, List.all_nil, Bool.not_true, Bool.or_self, Bool.and_self, decide_true, decide_false, if_true, if_false, splice, List.take_succ_cons, List.take_zero, List.drop_succ_cons, List.drop_zero, List.cons_append, List.nil_append, reduceCtorEq, G1, No1, hsl, hnbb, fenced_spec he, hfe, Bool.false_eq_true]
            exact Ev.some ⟨rfl, b :: (L0 ++ []), F1'.trans' (hmb (F3 _)), ⟨⟨nb, r0, L0, shv, stv, [], get_put_self _ _ _, v1, v2, v3, v4, N1.fr F1.ok (F3 _) hLb, fun _ => hr0', .inr (.inr ⟨by simp, by simp, rfl⟩), hbL0, by simp, by simp, rfl⟩, hrec, he, by simp⟩, fun c hc => .inl hc, E1.fr F1.ok (F3 _) hAb⟩
          | true =>
            simp only [nilc_ptr, ptrAt_ptr, Option.bind_some, Option.map_some, ld1_get', get_put', ldB_cells, ldNB_cells, stB_cells, List.getElem?_cons_zero, List.getElem?_cons_succ, Nat.zero_add, Nat.reduceAdd, Nat.reduceLeDiff, Int.reduceEq, V.one, asI_int, asB_bool, List.length_cons, List.length_nil, List.all_cons, List.all_nil, Bool.not_true, Bool.or_self, Bool.and_self, decide_true, decide_false, if_true, if_false, splice, List.take_succ_cons, List.take_zero, List.drop_succ_cons, List.drop_zero, List.cons_append, List.nil_append, reduceCtorEq, G1, No1, Cg, hsl, hnbb, hcb, fenced_spec he, hfe]
            have hns := NewShade_spec hr hq e (F3 (some (.cells [.bool laid, .int .i64 point, .ptr nb 0, .int .i64 rec, .int .i64 expect, .int .u64 e, shv, stv, .int .i64 4] .rw))).ok
            refine Ev.bind hns ?_
            rintro ⟨v, g4⟩ ⟨sb, rfl, F4, hsb, T4⟩
            dsimp only at F4 hsb T4
            have G4 := F4.get (F3 _).ok (get_put_self _ _ _) (by simp)
            have hb4 : b < g4.next := F4.lt hb1
            have F5 : ∀ x, Fr [b] g4 (g4.put b x) := fun x => (Fr.refl F4.ok).put (.inl (by simp)) hb4 _
            have hsbb : sb ≠ b := Nat.ne_of_gt (Nat.lt_of_lt_of_le hb1 hsb)
            have hle : h.next ≤ sb := Nat.le_trans (Nat.le_trans F0.le F1.le) hsb
            have hsL : sb ∉ L0 := fun hc => absurd ((N1.mem F1.ok).2 sb hc) (Nat.not_lt_of_le hsb)
            simp only [Option.bind_some, Option.map_some, get_put', put_put', ldB_cells, stB_cells, List.getElem?_cons_zero, List.getElem?_cons_succ, Nat.zero_add, Nat.reduceAdd, Nat.reduceLeDiff, Int.reduceEq, V.one, asI_int, List.length_cons, List.length_nil, Nat.beq_refl, List.all_cons, List.all_nil, Bool.not_true, Bool.or_self, Bool.and_self, decide_true, decide_false, if_true, splice, List.take_succ_cons, List.take_zero, List.drop_succ_cons, List.drop_zero, List.cons_append, List.nil_append, reduceCtorEq, G4]
            refine Ev.some ⟨rfl, b :: (L0 ++ [sb]), ((F1'.trans' (hmb (F3 _))).trans F4 (by simp)).trans' (hmb (F5 _)), ⟨⟨nb, r0, L0, .ptr sb 0, stv, [sb], get_put_self _ _ _, rfl, v2, rfl, v4, ((N1.fr F1.ok (F3 _) hLb).fr (F3 _).ok F4 (by simp)).fr F4.ok (F5 _) hLb, fun _ => hr0', .inl ⟨rfl, sb, _, q, rfl, rfl, hnq, hq, T4.fr F4.ok (F5 _) (by simp [hsbb]), rfl⟩, hbL0, by simp [hsbb.symm], by simp [hsL], rfl⟩, hrec, he, by simp⟩, ?_, ((E1.fr F1.ok (F3 _) hAb).fr (F3 _).ok F4 (by simp)).fr F4.ok (F5 _) hAb⟩
            intro c hc
            simp only [List.mem_cons, List.mem_append, List.not_mem_nil, or_false] at hc ⊢
            rcases hc with rfl | hc | rfl
            · exact .inl (.inl rfl)
            · exact .inl (.inr hc)
            · exact .inr hle
      · by_cases c3 : next = 3
        · subst c3
          obtain ⟨_, sb, sh, q, hsh, rfl, hnq, hq, T, rfl⟩ | ⟨h0, _⟩ | ⟨h0, _⟩ := X0
          rotate_left
          · cases h0
          · exact absurd rfl h0
          replace hnq : nw.rec' = some q := hnq
          replace hsh : shade = some sh := hsh
          subst hsh
          have hsb := hLXA sb (by simp)
          have hsbb : sb ≠ b := fun h => hbLX (by simp [h])
          have hsL : sb ∉ L0 := hLX0 sb (by simp)
          simp only [S.field_Lay_Step, nilc_ptr, eqPtr_ptr, ptrAt_ptr, Option.bind_some, Option.map_some, ld1_get', ldN_get', st_get', get_put', get_new', ldB_cells, ldNB_cells, stB_cells, List.getElem?_cons_zero, List.getElem?_cons_succ, Nat.zero_add, Nat.add_zero, Nat.reduceAdd, Nat.reduceLeDiff, Int.reduceEq, Int.reduceNeg, V.one, V.cells, asI_int, List.length_cons, List.length_nil, Nat.beq_refl, List.all_cons, List.all_nil, Bool.and_true, Bool.true_and, Bool.false_and, Bool.not_true, Bool.or_false, Bool.false_or, Bool.or_self, Bool.and_self, decide_true, decide_false, if_true, if_false, splice, List.take_succ_cons, List.take_zero, List.drop_succ_cons, List.drop_zero, List.cons_append, List.nil_append, reduceCtorEq, fill, opd, boxc, eqV, W_call, So, No, hbn, hnbn, hnbb, hcb, hnq]
          refine Ev.bind (T.stepB F0.ok hq he E0 hsb) ?_
          rintro ⟨v, g⟩ ⟨rfl, F1, T1, E1⟩
          dsimp only at F1 T1 E1
          have G1 := F1.get F0.ok So0 (by simp only [List.mem_cons, not_or] at hbmr ⊢; exact ⟨hsbb.symm, hbmr⟩)
          have N1 := N0.fr F0.ok F1 (fun c hc => by have := hpL (hL0A c hc); simp only [List.mem_cons, not_or] at this ⊢; exact ⟨fun h => hsL (h ▸ hc), this⟩)
          have hb1 : b < g.next := F1.lt hbl0
          have F1' : Fr (b :: (L0 ++ [sb]) ++ A.l) h g := hF0.trans' (F1.mono (by unfold Adr.l; simp))
          have F3 : ∀ x, Fr [b] g (g.put b x) := fun x => (Fr.refl F1.ok).put (.inl (by simp)) hb1 _
          unfold Lay.cs at G1
          simp only at G1
          by_cases hd : (sh.step q e f).1.next = 4
          · simp only [Option.bind_some, Option.map_some, get_put', ldB_cells, stB_cells, List.getElem?_cons_zero, List.getElem?_cons_succ, Nat.zero_add, Nat.reduceAdd, Nat.reduceLeDiff, Int.reduceEq, V.one, asI_int, asB_bool, List.length_cons, List.length_nil, List.all_cons, List.all_nil, Bool.not_true, Bool.or_self, Bool.and_self, decide_true, decide_false, if_true, splice, List.take_succ_cons, List.take_zero, List.drop_succ_cons, List.drop_zero, List.cons_append, List.nil_append, reduceCtorEq, G1, hd]
            exact Ev.some ⟨rfl, b :: (L0 ++ []), F1'.trans' (hmb (F3 _)), ⟨⟨nb, r0, L0, .ptr sb 0, stv, [], get_put_self _ _ _, v1, v2, v3, v4, N1.fr F1.ok (F3 _) hLb, fun _ => hr0', .inr (.inr ⟨by simp, by simp, rfl⟩), hbL0, by simp, by simp, rfl⟩, hrec, he, by simp⟩, fun c hc => .inl (by simp only [List.append_nil, List.mem_cons, List.mem_append] at hc ⊢; rcases hc with h | h; exact .inl h; exact .inr (.inl h)), E1.fr F1.ok (F3 _) hAb⟩
          · simp only [Option.bind_some, Option.map_some, get_put', ldB_cells, stB_cells, List.getElem?_cons_zero, List.getElem?_cons_succ, Nat.zero_add, Nat.reduceAdd, Nat.reduceLeDiff, Int.reduceEq, V.one, asI_int, asB_bool, List.length_cons, List.length_nil, List.all_cons, List.all_nil, Bool.not_true, Bool.or_self, Bool.and_self, decide_true, decide_false, if_true, if_false, splice, List.take_succ_cons, List.take_zero, List.drop_succ_cons, List.drop_zero, List.cons_append, List.nil_append, reduceCtorEq, G1, hd]
            exact Ev.some ⟨rfl, b :: (L0 ++ [sb]), F1', ⟨⟨nb, r0, L0, .ptr sb 0, stv, [sb], by unfold Lay.cs; exact G1, v1, v2, v3, v4, N1, fun _ => hr0', .inl ⟨rfl, sb, _, q, rfl, rfl, hnq, hq, T1, rfl⟩, hbL0, by simp [hsbb.symm], by simp [hsL], rfl⟩, hrec, he, by simp⟩, fun c hc => .inl hc, E1⟩
        · by_cases c4 : next = 4
          · subst c4
            have hLX : LX = [] := by
              rcases X with ⟨h0, _⟩ | ⟨h0, _⟩ | ⟨_, _, h0⟩
              · cases h0
              · cases h0
              · exact h0
            subst hLX
            obtain ⟨w1, w2⟩ := wr_plus1 (o := nw.rec') (fun q hq => Nat.le_of_lt (Nat.lt_of_lt_of_le (Nr q hq) (Nat.le_trans hS64 (by decide))))
            obtain ⟨w3, w4⟩ := wr_rec1 (q := rec) (Nat.le_of_lt (Nat.lt_of_lt_of_le hrec (Nat.le_trans hS64 (by decide))))
            simp only [S.field_Lay_Step, nilc_ptr, eqPtr_ptr, ptrAt_ptr, Option.bind_some, Option.map_some, ld1_get', ldN_get', st_get', get_put', get_new', ldB_cells, ldNB_cells, stB_cells, List.getElem?_cons_zero, List.getElem?_cons_succ, Nat.zero_add, Nat.add_zero, Nat.reduceAdd, Nat.reduceLeDiff, Int.reduceEq, Int.reduceNeg, V.one, V.cells, asI_int, List.length_cons, List.length_nil, Nat.beq_refl, List.all_cons, List.all_nil, Bool.and_true, Bool.false_and, Bool.not_true, Bool.or_false, Bool.false_or, Bool.or_self, Bool.and_self, decide_true, decide_false, if_true, if_false, splice, List.take_succ_cons, List.take_zero, List.drop_succ_cons, List.drop_zero, List.cons_append, List.nil_append, reduceCtorEq, fill, opd, boxc, eqV, W_call, So, No, hbn, hnbn, hnbb, hcb, w1, w3]
            refine Ev.bind (E0.swap F0.ok Nf _ w4) ?_
            rintro ⟨v, g⟩ ⟨rfl, F1, E1⟩
            dsimp only at F1 E1
            have G1 := F1.get F0.ok So0 hbmr
            have Cg := F1.get F0.ok C0 hnp
            have No1 := F1.get F0.ok No0 hnmr
            have N1 := hN F0.ok N0 F1
            have hb1 : b < g.next := F1.lt hbl0
            have F1' : Fr (b :: (L0 ++ []) ++ A.l) h g := hF0.trans' (hmp F1)
            have F3 : ∀ x, Fr [b] g (g.put b x) := fun x => (Fr.refl F1.ok).put (.inl (by simp)) hb1 _
            unfold Lay.cs at G1
            simp only at G1
            by_cases hsw : f nw.fld = sl nw.rec' + 1
            · rw [if_pos hsw] at E1
              simp only [nilc_ptr, ptrAt_ptr, Option.bind_some, ld1_get', ldB_cells, ldNB_cells, List.getElem?_cons_zero, List.getElem?_cons_succ, Nat.zero_add, Nat.reduceAdd, Nat.reduceLeDiff, Int.reduceEq, V.one, asB_bool, List.length_cons, List.length_nil, Nat.beq_refl, Bool.and_true, Bool.true_and, decide_true, decide_false, if_true, List.take_succ_cons, List.take_zero, List.drop_succ_cons, List.drop_zero, List.cons_append, List.nil_append, hsw, G1, No1, Cg]
              refine Ev.bind (newStamp_spec hr hrec A.bk F1.ok) ?_
              rintro ⟨v, g4⟩ ⟨tb, rfl, F4, htb, T4⟩
              dsimp only at F4 htb T4
              have G4 := F4.get F1.ok G1 (by simp)
              have hb4 : b < g4.next := F4.lt hb1
              have F5 : ∀ x, Fr [b] g4 (g4.put b x) := fun x => (Fr.refl F4.ok).put (.inl (by simp)) hb4 _
              have htbb : tb ≠ b := Nat.ne_of_gt (Nat.lt_of_lt_of_le hb1 htb)
              have hle : h.next ≤ tb := Nat.le_trans (Nat.le_trans F0.le F1.le) htb
              have htL : tb ∉ L0 := fun hc => absurd ((N1.mem F1.ok).2 tb hc) (Nat.not_lt_of_le htb)
              simp only [Option.bind_some, Option.map_some, get_put', put_put', ldB_cells, stB_cells, List.getElem?_cons_zero, List.getElem?_cons_succ, Nat.zero_add, Nat.reduceAdd, Nat.reduceLeDiff, Int.reduceEq, V.one, asI_int, List.length_cons, List.length_nil, Nat.beq_refl, List.all_cons, List.all_nil, Bool.not_true, Bool.or_self, Bool.and_self, decide_true, decide_false, if_true, splice, List.take_succ_cons, List.take_zero, List.drop_succ_cons, List.drop_zero, List.cons_append, List.nil_append, reduceCtorEq, G4]
              refine Ev.some ⟨rfl, b :: (L0 ++ [tb]), (F1'.trans F4 (by simp)).trans' (hmb (F5 _)), ⟨⟨nb, r0, L0, shv, .ptr tb 0, [tb], get_put_self _ _ _, v1, rfl, v3, rfl, (N1.fr F1.ok F4 (by simp)).fr F4.ok (F5 _) hLb, fun _ => hr0', .inr (.inl ⟨rfl, tb, _, rfl, rfl, T4.fr F4.ok (F5 _) (by simp [htbb]), rfl⟩), hbL0, by simp [htbb.symm], by simp [htL], rfl⟩, hrec, he, by simp⟩, ?_, (E1.fr F1.ok F4 (by simp)).fr F4.ok (F5 _) hAb⟩
              intro c hc
              simp only [List.mem_cons, List.mem_append, List.not_mem_nil, or_false] at hc ⊢
              rcases hc with rfl | hc | rfl
              · exact .inl (.inl rfl)
              · exact .inl (.inr hc)
              · exact .inr hle
            · rw [if_neg hsw] at E1
              have hgn : b ≠ g.next := Nat.ne_of_lt hb1
              have hnbg : nb ≠ g.next := Nat.ne_of_lt ((N1.mem F1.ok).2 nb nbL)
              have hcg : h.next ≠ g.next := F1.ok.ne0 Cg
              simp only [nilc_ptr, ptrAt_ptr, Option.bind_some, Option.map_some, ld1_get', get_put', get_new', put_put', ldB_cells, ldNB_cells, stB_cells, List.getElem?_cons_zero, List.getElem?_cons_succ, Nat.zero_add, Nat.reduceAdd, Nat.reduceLeDiff, Int.reduceEq, V.one, asI_int, asB_bool, List.length_cons, List.length_nil, Nat.beq_refl, List.all_cons, List.all_nil, Bool.and_true, Bool.true_and, Bool.not_true, Bool.or_self, Bool.and_self, decide_true, decide_false, if_true, if_false, splice, List.take_succ_cons, List.take_zero, List.drop_succ_cons, List.drop_zero, List.cons_append, List.nil_append, reduceCtorEq, hsw, G1, No1, Cg, hgn]
              have F4 : ∀ y, Fr [] g (g.new y) := fun y => (Fr.refl F1.ok).new y
              have hb4 : ∀ y, b < (g.new y).next := fun y => (F4 y).lt hb1
              have F5 : ∀ y x, Fr [b] (g.new y) ((g.new y).put b x) := fun y x => (Fr.refl (F4 y).ok).put (.inl (by simp)) (hb4 y) _
              have hle : h.next ≤ g.next := Nat.le_trans F0.le F1.le
              refine Ev.some ⟨rfl, b :: ([g.next] ++ []), (F1'.trans (F4 _) (by simp)).trans' (hmb (F5 _ _)), ⟨⟨g.next, 0, [g.next], shv, stv, [], get_put_self _ _ _, v1, v2, v3, v4, ⟨⟨.nilp, (F5 _ _).get (F4 _).ok (get_new_self _ _) (by simp [hgn.symm]), .inl ⟨rfl, rfl, rfl⟩⟩, Nf, by simp [Newest.fresh], by simp [Newest.fresh], .inl rfl⟩, by simp, .inr (.inr ⟨by simp, by simp, rfl⟩), by simp [hgn], by simp, by simp, rfl⟩, hrec, he, by simp⟩, ?_, (E1.fr F1.ok (F4 _) (by simp)).fr (F4 _).ok (F5 _ _) hAb⟩
              intro c hc
              simp only [List.mem_cons, List.mem_append, List.not_mem_nil, or_false] at hc ⊢
              rcases hc with rfl | rfl
              · exact .inl (.inl rfl)
              · exact .inr hle
          · by_cases c5 : next = 5
            · subst c5
              obtain ⟨h0, _⟩ | ⟨_, tb, t, hst, rfl, T, rfl⟩ | ⟨_, h0, _⟩ := X0
              · cases h0
              rotate_left
              · exact absurd rfl h0
              replace hst : stamp = some t := hst
              subst hst
              have htb := hLXA tb (by simp)
              have htbb : tb ≠ b := fun h => hbLX (by simp [h])
              have htL : tb ∉ L0 := hLX0 tb (by simp)
              simp only [S.field_Lay_Step, nilc_ptr, eqPtr_ptr, ptrAt_ptr, Option.bind_some, Option.map_some, ld1_get', ldN_get', st_get', get_put', get_new', ldB_cells, ldNB_cells, stB_cells, List.getElem?_cons_zero, List.getElem?_cons_succ, Nat.zero_add, Nat.add_zero, Nat.reduceAdd, Nat.reduceLeDiff, Int.reduceEq, Int.reduceNeg, V.one, V.cells, asI_int, List.length_cons, List.length_nil, Nat.beq_refl, List.all_cons, List.all_nil, Bool.and_true, Bool.true_and, Bool.false_and, Bool.not_true, Bool.false_or, Bool.or_self, Bool.and_self, decide_true, decide_false, if_true, if_false, splice, List.take_succ_cons, List.take_zero, List.drop_succ_cons, List.drop_zero, List.cons_append, List.nil_append, reduceCtorEq, fill, opd, boxc, eqV, W_call, So, No, hbn, hnbn, hnbb, hcb]
              refine Ev.bind (T.step F0.ok hr E0 htb) ?_
              rintro ⟨v, g⟩ ⟨rfl, F1, T1, E1⟩
              dsimp only at F1 T1 E1
              have G1 := F1.get F0.ok So0 (by simp only [List.mem_cons, not_or]; exact ⟨htbb.symm, hbA⟩)
              have N1 := N0.fr F0.ok F1 (fun c hc => by simp only [List.mem_cons, not_or]; exact ⟨fun h => htL (h ▸ hc), hL0A c hc⟩)
              obtain ⟨⟨sv1, No1, Ns1⟩, _⟩ := id N1
              have hb1 : b < g.next := F1.lt hbl0
              have F1' : Fr (b :: (L0 ++ [tb]) ++ A.l) h g := hF0.trans' (F1.mono (fun c hc => .inl (by rcases List.mem_cons.mp hc with rfl | hc <;> simp_all)))
              have F3 : ∀ x, Fr [b] g (g.put b x) := fun x => (Fr.refl F1.ok).put (.inl (by simp)) hb1 _
              unfold Lay.cs at G1
              simp only at G1
              by_cases hd : (t.step f B).1.next = 3
              · have hbo := E1.bk.bornS (rec : Int)
                simp only [nilc_ptr, ptrAt_ptr, Option.bind_some, Option.map_some, ld1_get', get_put', put_put', ldB_cells, stB_cells, List.getElem?_cons_zero, List.getElem?_cons_succ, Nat.zero_add, Nat.reduceAdd, Nat.reduceLeDiff, Int.reduceEq, V.one, asI_int, asB_bool, List.length_cons, List.length_nil, Nat.beq_refl, List.all_cons, List.all_nil, Bool.not_true, Bool.or_self, Bool.and_self, decide_true, decide_false, if_true, splice, List.take_succ_cons, List.take_zero, List.drop_succ_cons, List.drop_zero, List.cons_append, List.nil_append, reduceCtorEq, G1, hd, No1, hbo]
                exact Ev.some ⟨rfl, b :: (L0 ++ []), F1'.trans' (hmb (F3 _)), ⟨⟨nb, r0, L0, shv, .ptr tb 0, [], get_put_self _ _ _, v1, v2, v3, v4, N1.fr F1.ok (F3 _) hLb, fun _ => hr0', .inr (.inr ⟨by simp, by simp, rfl⟩), hbL0, by simp, by simp, rfl⟩, hrec, he, by simp⟩, fun c hc => .inl (by simp only [List.append_nil, List.mem_cons, List.mem_append] at hc ⊢; rcases hc with h | h; exact .inl h; exact .inr (.inl h)), E1.fr F1.ok (F3 _) hAb⟩
              · simp only [nilc_ptr, ptrAt_ptr, Option.bind_some, ld1_get', ldB_cells, List.getElem?_cons_zero, List.getElem?_cons_succ, Nat.zero_add, Int.reduceEq, V.one, asI_int, asB_bool, decide_false, if_false, G1, hd]
                exact Ev.some ⟨rfl, b :: (L0 ++ [tb]), F1', ⟨⟨nb, r0, L0, shv, .ptr tb 0, [tb], by unfold Lay.cs; exact G1, v1, v2, v3, v4, N1, fun _ => hr0', .inr (.inl ⟨rfl, tb, _, rfl, rfl, T1, rfl⟩), hbL0, by simp [htbb.symm], by simp [htL], rfl⟩, hrec, he, by simp⟩, fun c hc => .inl hc, E1⟩
            · have hLX : LX = [] := by
                rcases X with ⟨h0, _⟩ | ⟨h0, _⟩ | ⟨_, _, h0⟩
                · exact absurd h0 c3
                · exact absurd h0 c5
                · exact h0
              subst hLX
              simp only [S.field_Lay_Step, nilc_ptr, eqPtr_ptr, ptrAt_ptr, Option.bind_some, Option.map_some, ld1_get', ldN_get', st_get', get_put', get_new', ldB_cells, ldNB_cells, stB_cells, List.getElem?_cons_zero, List.getElem?_cons_succ, Nat.zero_add, Nat.add_zero, Nat.reduceAdd, Nat.reduceLeDiff, Int.reduceNeg, V.one, V.cells, asI_int, List.length_cons, List.length_nil, Nat.beq_refl, List.all_cons, List.all_nil, Bool.and_true, Bool.false_and, Bool.not_true, Bool.false_or, Bool.or_self, Bool.and_self, decide_true, decide_false, if_true, if_false, splice, List.take_succ_cons, List.take_zero, List.drop_succ_cons, List.drop_zero, List.cons_append, List.nil_append, reduceCtorEq, fill, opd, boxc, eqV, W_call, So, No, hbn, hnbn, hnbb, hcb, c0, c1, c2, c3, c4, c5, Bool.false_eq_true]
              exact Ev.some ⟨rfl, b :: (L0 ++ []), hF0, ⟨⟨nb, r0, L0, shv, stv, [], So0, v1, v2, v3, v4, N0, fun _ => hr0', .inr (.inr ⟨c3, c5, rfl⟩), hbL0, by simp, by simp, rfl⟩, hrec, he, hone⟩, fun c hc => .inl hc, E0⟩
end Wm
end

section
/- Slices that grow: what is appended, one element at a time. -/
namespace Wm
attribute [local congr] bind_congr1
attribute [local irreducible] wr

/-- The block of a slice. -/
def V.blk : V → List Nat
  | .sl b _ _ _ => [b]
  | _ => []

/-- A row of numbers of a kind that is only read, or nil. -/
def RowN (kd : Go.IntKind) (g : Nat → Option Blk) (x : V) (ws : List Int) : Prop := (x = .nilsl ∧ ws = []) ∨ ∃ b c k, x = .sl b 0 ws.length c ∧ g b = some (.cells (ws.map (.int kd)) k)
theorem RowN.len {kd : Go.IntKind} {g : Nat → Option Blk} {x : V} {ws : List Int} (h : RowN kd g x ws) : lenSl x = some ws.length := by
  obtain ⟨rfl, rfl⟩ | ⟨b, c, k, rfl, _⟩ := h <;> rfl
theorem RowN.at {kd : Go.IntKind} {g : H} {x : V} {ws : List Int} (h : RowN kd g.get x ws) {i : Nat} {w : Int} (hw : ws[i]? = some w) : ∃ b, indexAV 1 x (.int .i64 (i : Int)) = some (.ptr b i) ∧ g.ld1 (.ptr b i) = some (.int kd w) := by
  have hi := lt_of_get hw
  obtain ⟨rfl, rfl⟩ | ⟨b, c, k, rfl, hb⟩ := h
  · simp at hw
  · refine ⟨b, sl_idx1 hi, ?_⟩
    rw [ld1_get', hb, ldB_cells, List.getElem?_map, hw]; rfl
theorem RowN.fr {kd : Go.IntKind} {g g' : H} {L : List Nat} {x : V} {ws : List Int} (h : RowN kd g.get x ws) (ok : g.ok) (F : Fr L g g') (hL : ∀ b ∈ x.blk, b ∉ L) : RowN kd g'.get x ws := by
  obtain h1 | ⟨b, c, k, rfl, hb⟩ := h
  · exact .inl h1
  · exact .inr ⟨b, c, k, rfl, F.get ok hb (hL b (by simp [V.blk]))⟩
theorem RowN.lt {kd : Go.IntKind} {g : H} {x : V} {ws : List Int} (h : RowN kd g.get x ws) (ok : g.ok) : ∀ b ∈ x.blk, b < g.next := by
  obtain ⟨rfl, rfl⟩ | ⟨b, c, k, rfl, hb⟩ := h
  · simp [V.blk]
  · intro c' hc; simp only [V.blk, List.mem_singleton] at hc; subst hc; exact ok.lt hb
end Wm
end

section
/- What arguments are, as lists of typed things. -/
namespace Wm

theorem chunks {α : Type} {P : List V → Prop} {enc : α → List V} {Q : α → Prop} {z : Nat} (hP : ∀ c, P c → ∃ y, c = enc y ∧ Q y) :
    ∀ (n : Nat) (cs : List V), cs.length = n * z → (∀ i, i < n → P ((cs.drop (i * z)).take z)) → ∃ ys : List α, cs = (ys.map enc).flatten ∧ ys.length = n ∧ ∀ y ∈ ys, Q y
  | 0, cs, hl, _ => ⟨[], by simpa using hl, rfl, by simp⟩
  | n + 1, cs, hl, h => by
    obtain ⟨y, hy, qy⟩ := hP _ (h 0 (by omega))
    have hl2 : (cs.drop z).length = n * z := by rw [List.length_drop, hl, Nat.add_mul]; omega
    obtain ⟨ys, h1, h2, h3⟩ := chunks hP n (cs.drop z) hl2 (fun i hi => by
      have := h (i + 1) (by omega)
      rw [Nat.add_mul, Nat.one_mul, Nat.add_comm (i * z) z, ← List.drop_drop] at this
      exact this)
    refine ⟨y :: ys, ?_, by simp [h2], fun x hx => ?_⟩
    · rw [List.map_cons, List.flatten_cons, ← h1, ← hy, Nat.zero_mul, List.drop_zero, List.take_append_drop]
    · rcases List.mem_cons.mp hx with rfl | hx
      · exact qy
      · exact h3 x hx

theorem flat_ones {α β : Type} (f : α → β) (l : List α) : (l.map fun m => [f m]).flatten = l.map f := by
  induction l with
  | nil => rfl
  | cons x l ih => simp only [List.map_cons, List.flatten_cons, ih, List.cons_append, List.nil_append]

theorem rowN_of {g : Nat → Option Blk} {kd : Go.IntKind} {by' : Nat} {v : V} (h : CellOk g (.sl by' [.int kd]) v) :
    ∃ ws, RowN kd g v ws ∧ (∀ w ∈ ws, (Go.Lit.int kd w).wf = true) ∧ ws.length * by' ≤ 140737488351232 ∧ ws.length ≤ Go.maxLen := by
  unfold CellOk at h
  rcases h with rfl | ⟨b, n, cs, rfl, ⟨h1, h2⟩, h3, h4, h5⟩
  · exact ⟨[], .inl ⟨rfl, rfl⟩, by simp, by simp, by simp⟩
  · obtain ⟨ws, e1, e2, e3⟩ := chunks (α := Int) (enc := fun m => [V.int kd m]) (Q := fun w => (Go.Lit.int kd w).wf = true) (P := CellsOk g [.int kd]) (fun c hc => by
      obtain ⟨v, vs, rfl, ⟨m, rfl, hm⟩, h⟩ := hc
      unfold CellsOk at h
      subst h
      exact ⟨m, rfl, hm⟩) n cs h4 h5
    have e4 : cs = ws.map (.int kd) := by
      rw [e1]; exact flat_ones _ ws
    subst e2
    exact ⟨ws, .inr ⟨b, _, .ro, rfl, by rw [h3, e4]⟩, e3, h2, h1⟩

end Wm
end

section
/- The law FieldAlone, of my machine. -/
namespace Wm
attribute [local congr] bind_congr1
attribute [local irreducible] wr

theorem World10.fr {g g' : H} {L : List Nat} {w : Nat} {A : Adr} {f : Wd → Int} {n : Int} {B : BookT} (Y : World10 g w A f n B) (ok : g.ok) (F : Fr L g g') (hw : w ∉ L) (hL : ∀ c ∈ A.l, c ∉ L) : World10 g' w A f n B :=
  ⟨F.get ok Y.own hw, Y.out, Y.base.fr ok F hL⟩
/-- Behind a touch. -/
theorem World10.to {g g' : H} {L : List Nat} {w : Nat} {A : Adr} {f f' : Wd → Int} {n n' : Int} {B B' : BookT} (Y : World10 g w A f n B) (ok : g.ok) (F : Fr L g g') (hw : w ∉ L) (E : Base g' A cfg10 f' n' B') : World10 g' w A f' n' B' :=
  ⟨F.get ok Y.own hw, Y.out, E⟩

/-- The loop of a Lay alone. -/
theorem fa_lay {x0 : V} {x6 x8 x9 x10 x11 : Int} {g0 : H} (ok : g0.ok) {w : Nat} {A : Adr} {f0 : Wd → Int} {n0 : Int} {B0 : BookT} (Y : World10 g0 w A f0 n0 B0) {b : Nat} {s0 : Lay} {L : List Nat}
    (Z : LayAt g0 b cfg10 A.bk s0 L) (hLA : ∀ c ∈ L, c ∉ A.l) (hw : w ∉ L) {Q : LaySt → Prop} (G : Go (layX cfg10) layFin 30 (s0, f0, B0) Q)
    (K : AX × List V × H → Option (AX × List V × H)) (R : AX × List V × H → Prop)
    (hK : ∀ (s : Lay) (f : Wd → Int) (n : Int) (B : BookT) (L' : List Nat) (j : Nat) (g : H), j < 30 → Q (s, f, B) → Fr (L ++ A.l) g0 g → LayAt g b cfg10 A.bk s L' → World10 g w A f n B →
      Ev (K (.exit 2, S.withylaw10_FieldAlone_c9_O x0 (.ptr w 0) (.int .i64 x6) (.int .i64 x8) (.int .i64 x9) (.int .i64 x10) (.int .i64 x11) (.ptr b 0) (.int .i64 j), g)) R) :
    Ev ((W.loop (S.withylaw10_FieldAlone_c9_B W) (S.withylaw10_FieldAlone_c9_E x0 (.ptr w 0) (.int .i64 x6) (.int .i64 x8) (.int .i64 x9) (.int .i64 x10) (.int .i64 x11) (.ptr b 0) (.int .i64 0)) g0).bind K) R := by
  have hA0' := Y.base.lt ok
  have hw0' := ok.lt Y.own
  refine loop_ev (α := Nat × LaySt × List Nat × Int) (fun y => S.withylaw10_FieldAlone_c9_E x0 (.ptr w 0) (.int .i64 x6) (.int .i64 x8) (.int .i64 x9) (.int .i64 x10) (.int .i64 x11) (.ptr b 0) (.int .i64 (y.1 : Nat)))
    (fun y g => Go (layX cfg10) layFin (30 - y.1) y.2.1 Q ∧ Fr (L ++ A.l) g0 g ∧ LayAt g b cfg10 A.bk y.2.1.1 y.2.2.1 ∧ (∀ c ∈ y.2.2.1, c ∈ L ∨ g0.next ≤ c) ∧ World10 g w A y.2.1.2.1 y.2.2.2 y.2.1.2.2)
    (fun y _ => 30 - y.1)
    (fun r => ∃ (j : Nat) (s : Lay) (f : Wd → Int) (n : Int) (B : BookT) (L' : List Nat), r.1 = .exit 2 ∧ r.2.1 = S.withylaw10_FieldAlone_c9_O x0 (.ptr w 0) (.int .i64 x6) (.int .i64 x8) (.int .i64 x9) (.int .i64 x10) (.int .i64 x11) (.ptr b 0) (.int .i64 j) ∧ j < 30 ∧ Q (s, f, B) ∧ Fr (L ++ A.l) g0 r.2.2 ∧ LayAt r.2.2 b cfg10 A.bk s L' ∧ World10 r.2.2 w A f n B)
    (0, (s0, f0, B0), L, n0) rfl ⟨G, .refl ok, Z, fun _ h => .inl h, Y⟩ ?_ ?_
  rotate_left
  · rintro ⟨x, env, g⟩ ⟨j, s, f, n, B, L', rfl, rfl, hj, hq, F, Z', Y'⟩
    exact hK s f n B L' j g hj hq F Z' Y'
  rintro ⟨j, ⟨s, f, B⟩, L', n⟩ g ⟨G, F, Z, hL', Y⟩
  dsimp only at G Z hL' Y ⊢
  have hj : j < 30 := by
    by_cases h : j < 30
    · exact h
    · rw [show 30 - j = 0 by omega] at G; exact G.elim
  obtain ⟨m, hm⟩ : ∃ m, 30 - j = m + 1 := ⟨29 - j, by omega⟩
  rw [hm] at G
  rw [S.withylaw10_FieldAlone_c9_eq]
  have hd : decide ((j : Int) < 30) = true := decide_eq_true (by omega)
  have hA0 := hA0'
  have hw0 := hw0'
  have hLA' : ∀ c ∈ L', c ∉ A.l := fun c hc hA => (hL' c hc).elim (fun h => hLA c h hA) (fun h => absurd (hA0 c hA) (Nat.not_lt_of_le h))
  have hwL' : w ∉ L' := fun hc => (hL' w hc).elim hw (fun h => absurd hw0 (Nat.not_lt_of_le h))
  have hY := Y.own
  simp only [S.withylaw10_FieldAlone_c9_S, nilc_ptr, ptrAt_ptr, Option.bind_some, ld1_get', ldB_cells, List.getElem?_cons_zero, List.getElem?_cons_succ, Nat.zero_add, V.one, W_call, hd, hY]
  refine Ev.bind (Z.step F.ok cfg10_R Y.base hLA') ?_
  rintro ⟨v, g'⟩ ⟨rfl, L2, F1, Z1, hL2, E1⟩
  dsimp only at F1 Z1 E1 ⊢
  have F2 : Fr (L ++ A.l) g0 g' := F.trans F1 (by
    intro c hc
    rcases List.mem_append.mp hc with h | h
    · exact (hL' c h).imp (fun h => by simp [h]) id
    · exact .inl (by simp [h]))
  have Y1 := Y.to F.ok F1 (by simp only [List.mem_append, not_or]; exact ⟨hwL', Y.out⟩) E1
  have hL2' : ∀ c ∈ L2, c ∈ L ∨ g0.next ≤ c := fun c hc => (hL2 c hc).elim (hL' c) (fun h => .inr (Nat.le_trans F.le h))
  rcases G with ⟨hf, hq⟩ | ⟨hf, G1⟩
  · have hd2 : decide ((s.step cfg10 f B).1.next = 6) = true := decide_eq_true hf
    simp only [Option.bind_some, asB_bool, Bool.not_true, hd2]
    exact Ev.some (.inr ⟨by simp, j, _, _, _, _, L2, rfl, rfl, hj, hq, F2, Z1, Y1⟩)
  · have hd2 : decide ((s.step cfg10 f B).1.next = 6) = false := decide_eq_false hf
    have w1 : wr .i64 ((j : Int) + 1) = ((j + 1 : Nat) : Int) := by rw [wr64 (by omega) (by omega)]; rfl
    simp only [Option.bind_some, asB_bool, Bool.not_false, hd2, w1]
    refine Ev.some (.inl ⟨(j + 1, layX cfg10 (s, f, B), L2, _), rfl, rfl, ⟨?_, F2, Z1, hL2', Y1⟩, ?_⟩)
    · show Go _ _ (30 - (j + 1)) _ Q
      rw [show 30 - (j + 1) = m by omega]; exact G1
    · show 30 - (j + 1) < 30 - j
      omega
/-- The loop of a Read alone. -/
theorem fa_read {x0 : V} {x6 x8 x9 : Int} {g0 : H} (ok : g0.ok) {w : Nat} {A : Adr} {f0 : Wd → Int} {n0 : Int} {B0 : BookT} (Y : World10 g0 w A f0 n0 B0) {b : Nat} {s0 : Read} {L : List Nat}
    (Z : ReadAt g0 b cfg10 A.bk s0 L) (hLA : ∀ c ∈ L, c ∉ A.l) (hw : w ∉ L) {Q : ReadSt → Prop} (G : Go (readX cfg10) readFin 5 (s0, f0, B0) Q)
    (K : AX × List V × H → Option (AX × List V × H)) (R : AX × List V × H → Prop)
    (hK : ∀ (s : Read) (f : Wd → Int) (n : Int) (B : BookT) (L' : List Nat) (j : Nat) (g : H), j < 5 → Q (s, f, B) → Fr (L ++ A.l) g0 g → ReadAt g b cfg10 A.bk s L' → World10 g w A f n B →
      Ev (K (.exit 4, S.withylaw10_FieldAlone_c17_O x0 (.ptr w 0) (.int .i64 x6) (.int .i64 x8) (.int .i64 x9) (.ptr b 0), g)) R) :
    Ev ((W.loop (S.withylaw10_FieldAlone_c17_B W) (S.withylaw10_FieldAlone_c17_E x0 (.ptr w 0) (.int .i64 x6) (.int .i64 x8) (.int .i64 x9) (.ptr b 0) (.int .i64 0)) g0).bind K) R := by
  have hA0' := Y.base.lt ok
  have hw0' := ok.lt Y.own
  refine loop_ev (α := Nat × ReadSt × List Nat × Int) (fun y => S.withylaw10_FieldAlone_c17_E x0 (.ptr w 0) (.int .i64 x6) (.int .i64 x8) (.int .i64 x9) (.ptr b 0) (.int .i64 (y.1 : Nat)))
    (fun y g => Go (readX cfg10) readFin (5 - y.1) y.2.1 Q ∧ Fr (L ++ A.l) g0 g ∧ ReadAt g b cfg10 A.bk y.2.1.1 y.2.2.1 ∧ (∀ c ∈ y.2.2.1, c ∈ L ∨ g0.next ≤ c) ∧ World10 g w A y.2.1.2.1 y.2.2.2 y.2.1.2.2)
    (fun y _ => 5 - y.1)
    (fun r => ∃ (j : Nat) (s : Read) (f : Wd → Int) (n : Int) (B : BookT) (L' : List Nat), r.1 = .exit 4 ∧ r.2.1 = S.withylaw10_FieldAlone_c17_O x0 (.ptr w 0) (.int .i64 x6) (.int .i64 x8) (.int .i64 x9) (.ptr b 0) ∧ j < 5 ∧ Q (s, f, B) ∧ Fr (L ++ A.l) g0 r.2.2 ∧ ReadAt r.2.2 b cfg10 A.bk s L' ∧ World10 r.2.2 w A f n B)
    (0, (s0, f0, B0), L, n0) rfl ⟨G, .refl ok, Z, fun _ h => .inl h, Y⟩ ?_ ?_
  rotate_left
  · rintro ⟨x, env, g⟩ ⟨j, s, f, n, B, L', rfl, rfl, hj, hq, F, Z', Y'⟩
    exact hK s f n B L' j g hj hq F Z' Y'
  rintro ⟨j, ⟨s, f, B⟩, L', n⟩ g ⟨G, F, Z, hL', Y⟩
  dsimp only at G Z hL' Y ⊢
  have hj : j < 5 := by
    by_cases h : j < 5
    · exact h
    · rw [show 5 - j = 0 by omega] at G; exact G.elim
  obtain ⟨m, hm⟩ : ∃ m, 5 - j = m + 1 := ⟨4 - j, by omega⟩
  rw [hm] at G
  rw [S.withylaw10_FieldAlone_c17_eq]
  have hd : decide ((j : Int) < 5) = true := decide_eq_true (by omega)
  have hA0 := hA0'
  have hw0 := hw0'
  have hLA' : ∀ c ∈ L', c ∉ A.l := fun c hc hA => (hL' c hc).elim (fun h => hLA c h hA) (fun h => absurd (hA0 c hA) (Nat.not_lt_of_le h))
  have hwL' : w ∉ L' := fun hc => (hL' w hc).elim hw (fun h => absurd hw0 (Nat.not_lt_of_le h))
  have hY := Y.own
  simp only [S.withylaw10_FieldAlone_c17_S, nilc_ptr, ptrAt_ptr, Option.bind_some, ld1_get', ldB_cells, List.getElem?_cons_zero, List.getElem?_cons_succ, Nat.zero_add, V.one, W_call, hd, hY]
  refine Ev.bind (Z.step F.ok cfg10_R Y.base hLA') ?_
  rintro ⟨v, g'⟩ ⟨rfl, L2, F1, Z1, hL2, E1⟩
  dsimp only at F1 Z1 E1 ⊢
  have F2 : Fr (L ++ A.l) g0 g' := F.trans F1 (by
    intro c hc
    rcases List.mem_append.mp hc with h | h
    · exact (hL' c h).imp (fun h => by simp [h]) id
    · exact .inl (by simp [h]))
  have Y1 := Y.to F.ok F1 (by simp only [List.mem_append, not_or]; exact ⟨hwL', Y.out⟩) E1
  have hL2' : ∀ c ∈ L2, c ∈ L ∨ g0.next ≤ c := fun c hc => (hL2 c hc).elim (hL' c) (fun h => .inr (Nat.le_trans F.le h))
  rcases G with ⟨hf, hq⟩ | ⟨hf, G1⟩
  · have hd2 : decide ((s.step cfg10 f B).1.next = 2) = true := decide_eq_true hf
    simp only [Option.bind_some, asB_bool, Bool.not_true, hd2]
    exact Ev.some (.inr ⟨by simp, j, _, _, _, _, L2, rfl, rfl, hj, hq, F2, Z1, Y1⟩)
  · have hd2 : decide ((s.step cfg10 f B).1.next = 2) = false := decide_eq_false hf
    have w1 : wr .i64 ((j : Int) + 1) = ((j + 1 : Nat) : Int) := by rw [wr64 (by omega) (by omega)]; rfl
    simp only [Option.bind_some, asB_bool, Bool.not_false, hd2, w1]
    refine Ev.some (.inl ⟨(j + 1, readX cfg10 (s, f, B), L2, _), rfl, rfl, ⟨?_, F2, Z1, hL2', Y1⟩, ?_⟩)
    · show Go _ _ (5 - (j + 1)) _ Q
      rw [show 5 - (j + 1) = m by omega]; exact G1
    · show 5 - (j + 1) < 5 - j
      omega

/-! ### Between two values -/
structure Inv10 (f : Wd → Int) (i0 : Nat) (last : Int) (next : Nat) : Prop where
  rests : Rests cfg10 f i0
  val : valF cfg10 f i0 = last
  clock : f .clock ≠ 0
  old : ∀ q, namedO cfg10 (f (.body 0 i0)) = some q → q ≠ 0 ∧ q < next
theorem Inv10.mono {f : Wd → Int} {i0 : Nat} {last : Int} {r r' : Nat} (I : Inv10 f i0 last r) (h : r ≤ r') : Inv10 f i0 last r' :=
  ⟨I.rests, I.val, I.clock, fun q hq => ⟨(I.old q hq).1, Nat.lt_of_lt_of_le (I.old q hq).2 h⟩⟩
theorem Inv10.value {f : Wd → Int} {i0 : Nat} {last : Int} {r : Nat} (I : Inv10 f i0 last r) (hr : r ≠ 0) (v : Int) : Inv10 (wset f (.body r 0) v) i0 last r := by
  have h0 : wset f (.body r 0) v (.body 0 i0) = f (.body 0 i0) := wset_ne (by simp [Ne.symm hr])
  refine ⟨⟨by rw [h0]; exact I.rests.at', fun q hq => ?_⟩, ?_, by rw [wset_ne (by simp)]; exact I.clock, fun q hq => ?_⟩
  · rw [h0] at hq; rw [wset_ne (by simp)]; exact I.rests.stamped q hq
  · have := I.val
    unfold valF at this ⊢
    rw [h0]
    cases hq : namedO cfg10 (f (.body 0 i0)) with
    | none => rw [hq] at this; exact this
    | some q =>
      rw [hq] at this
      simp only at this ⊢
      rw [wset_ne (by simp [Nat.ne_of_lt (I.old q hq).2])]; exact this
  · rw [h0] at hq; exact I.old q hq
theorem named10 {v : Int} (h0 : -1 ≤ v) (h1 : v ≤ 30) : sl (namedO cfg10 (v + 1)) = v := by
  have hs : cfg10.s = 40 := rfl
  unfold namedO
  rw [hs]
  by_cases h : 1 ≤ v + 1
  · rw [if_pos ⟨h, by omega⟩]; show (((v + 1 - 1).toNat : Nat) : Int) = v; omega
  · rw [if_neg (by omega)]; show (-1 : Int) = v; omega
theorem named10r {r : Nat} (h1 : r < 40) : namedO cfg10 ((r : Int) + 1) = some r := by
  have hs : cfg10.s = 40 := rfl
  unfold namedO
  rw [hs, if_pos (by omega)]; congr 1; omega
theorem Inv10.laid {f f' : Wd → Int} {i0 : Nat} {last v : Int} {r : Nat} (I : Inv10 f i0 last r) (hr : r ≠ 0) (hr4 : r < 40) (hv : f (.body r 0) = v + 1) (v0 : -1 ≤ v) (v1 : v ≤ 30) (hS : SameB (laidF f (.body 0 i0) r) f') : Inv10 f' i0 v (r + 1) := by
  have hf : ∀ q j, laidF f (.body 0 i0) r (.body q j) = if q = r ∧ j = 1 then (if f (.body r 1) = 0 then f .clock else f (.body r 1)) else if q = 0 ∧ j = i0 then (r : Int) + 1 else if q = r ∧ j = 2 then f (.body 0 i0) else f (.body q j) := by
    intro q j
    unfold laidF
    by_cases h1 : q = r ∧ j = 1
    · rw [if_pos h1]
      obtain ⟨rfl, rfl⟩ := h1
      by_cases hz : f (.body q 1) = 0
      · rw [if_pos hz, if_pos hz, wset_same]
      · rw [if_neg hz, if_neg hz, wset_ne (by simp [hr]), wset_ne (by simp)]
    · rw [if_neg h1]
      have h1' : Wd.body q j ≠ .body r 1 := by simpa using h1
      have : ∀ g : Wd → Int, (if f (.body r 1) = 0 then wset g (.body r 1) (f .clock) else g) (.body q j) = g (.body q j) := by
        intro g; split
        · exact wset_ne h1'
        · rfl
      rw [this]
      by_cases h2 : q = 0 ∧ j = i0
      · rw [if_pos h2]; obtain ⟨rfl, rfl⟩ := h2; rw [wset_same]
      · rw [if_neg h2, wset_ne (by simpa using h2)]
        by_cases h3 : q = r ∧ j = 2
        · rw [if_pos h3]; obtain ⟨rfl, rfl⟩ := h3; rw [wset_same]
        · rw [if_neg h3, wset_ne (by simpa using h3)]
  have hb : ∀ q j, f' (.body q j) = _ := fun q j => (hS.body q j).trans (hf q j)
  have h0 : f' (.body 0 i0) = (r : Int) + 1 := by rw [hb, if_neg (by simp [Ne.symm hr]), if_pos ⟨rfl, rfl⟩]
  have hc : f' .clock = f .clock := by
    rw [hS.clock]
    unfold laidF
    split
    · rw [wset_ne (by simp), wset_ne (by simp), wset_ne (by simp)]
    · rw [wset_ne (by simp), wset_ne (by simp)]
  refine ⟨⟨by rw [h0, named10r hr4]; rfl, fun q hq => ?_⟩, ?_, by rw [hc]; exact I.clock, fun q hq => ?_⟩
  · rw [h0, named10r hr4] at hq
    cases hq
    rw [hb, if_pos ⟨rfl, rfl⟩]
    split
    · exact I.clock
    · assumption
  · unfold valF
    rw [h0, named10r hr4]
    simp only
    rw [hb, if_neg (by simp), if_neg (by simp [hr]), if_neg (by simp), hv, named10 v0 v1]
  · rw [h0, named10r hr4] at hq
    cases hq
    exact ⟨hr, Nat.lt_succ_self _⟩
theorem Inv10.begin {i0 : Nat} : Inv10 (beg10 cfg10.S) i0 (-1) 5 := by
  have h0 : namedO cfg10 (beg10 cfg10.S (.body 0 i0)) = none := rfl
  exact ⟨⟨by rw [h0]; rfl, fun q hq => by rw [h0] at hq; cases hq⟩, by unfold valF; rw [h0], by decide, fun q hq => by rw [h0] at hq; cases hq⟩

/-- From a record's making on. -/
theorem fa_rest {h : H} {x0 : V} {vals : List Int} (hx : RowN .u8 h.get x0 vals) (ok : h.ok) (hx0 : ∀ b ∈ x0.blk, b < h.next) {i0 : Nat} (hi0 : i0 < 3) {w : Nat} {A : Adr} (hwn : h.next ≤ w) (hAn : ∀ c ∈ A.l, h.next ≤ c)
    {i : Nat} {last v ex n3 : Int} {f : Wd → Int} {n : Int} {B : BookT} {g : H} (F0 : Fr [] h g) (Y : World10 g w A f n B) (I : Inv10 f i0 last (5 + i)) (hi : i < 30) (hv : f (.body (5 + i) 0) = v + 1) (v0 : -1 ≤ v) (v1 : v ≤ 30)
    (hn3 : vals[i]? = some n3) (hn : 0 ≤ n3 ∧ n3 < 256) :
    Ev (S.withylaw10_FieldAlone_c7_n W x0 (.ptr w 0) (i0 : Nat) last (i : Nat) v ex g) fun r => ∃ last' f' n' B', r.1 = .normal ∧ r.2.1 = S.withylaw10_FieldAlone_c4_E x0 (.ptr w 0) (.int .i64 (i0 : Nat)) (.int .i64 last') (.int .i64 (i + 1 : Nat)) ∧ Fr [] h r.2.2 ∧ World10 r.2.2 w A f' n' B' ∧ Inv10 f' i0 last' (5 + (i + 1)) := by
  have hv10 : cfg10.v = .agg [.int .i64 40, .int .i64 3, .int .i64 1, .int .i64 1, .int .i64 9, .int .i64 0] := rfl
  have ok0 := F0.ok
  have hS40 : cfg10.S = 40 := rfl
  have hi0r : i0 < cfg10.room := by show i0 < 3; exact hi0
  obtain ⟨xb, hix, hld⟩ := (hx.fr ok F0 (by simp)).at hn3
  have w5 : wr .i64 (5 + (i : Int)) = ((5 + i : Nat) : Int) := by rw [wr64 (by omega) (by omega)]; omega
  have we : wr .u64 (wr .u8 (Int.tdiv n3 16)) = n3 / 16 := by
    have h1 : wr .u8 (n3 / 16) = n3 / 16 := by simp only [wr]; omega
    rw [td hn.1, h1, wru64 (by omega) (by omega)]
  have hY := Y.own
  have hNL := newLay_spec cfg10_R (q := 0) (i := i0) (rec := 5 + i) (by rw [hS40]; omega) hi0r (by rw [hS40]; omega) ex (e := n3 / 16) ⟨by omega, by omega⟩ A.bk ok0
  rw [hv10] at hNL
  have z0 : ((0 : Nat) : Int) = 0 := rfl
  rw [z0] at hNL
  simp only [S.withylaw10_FieldAlone_c7_n, nilc_ptr, ptrAt_ptr, Option.bind_some, ld1_get', ldN_get', ldB_cells, ldNB_cells, List.getElem?_cons_zero, List.getElem?_cons_succ, Nat.zero_add, Nat.add_zero, Nat.reduceAdd, Nat.reduceLeDiff, V.one, asI_int, List.length_cons, List.length_nil, decide_true, List.take_succ_cons, List.take_zero, List.drop_zero, W_call, hY, hix, hld, w5, we]
  refine Ev.bind hNL ?_
  rintro ⟨_, g1⟩ ⟨b, L, rfl, F1, hL, Z1⟩
  dsimp only at F1 Z1 ⊢
  have hAl := Y.base.lt ok0
  have hwl := ok0.lt Y.own
  have Y1 := Y.fr ok0 F1 (by simp) (by simp)
  have hLA : ∀ c ∈ L, c ∉ A.l := fun c hc hA => absurd (hAl c hA) (Nat.not_lt_of_le (hL c hc))
  have hwL : w ∉ L := fun hc => absurd hwl (Nat.not_lt_of_le (hL w hc))
  have F01 : Fr [] h g1 := F0.trans F1 (by simp)
  have hne : 5 + i ≠ 0 := by omega
  have G := lay_alone (k := cfg10) (m := 19) (f := f) (B := B) (Q := fun x => x.1.laid = decide (ex < -1 ∨ ex = last) ∧ (if x.1.laid then SameB (laidF f (.body 0 i0) (5 + i)) x.2.1 else x.2.1 = f)) (e := n3 / 16) (ex := ex) hne I.rests (fun s' f' B' h1 h2 => ⟨by rw [← I.val]; exact h1, h2⟩)
  refine fa_lay F1.ok Y1 Z1 hLA hwL G _ _ ?_
  rintro s f2 n2 B2 L2 j g2 hj ⟨hla, hS⟩ F2 Z2 Y2
  dsimp only at hla hS ⊢
  have F02 : Fr [] h g2 := F01.trans F2 (by
    intro c hc
    rcases List.mem_append.mp hc with hc | hc
    · exact .inr (Nat.le_trans F0.le (hL c hc))
    · exact .inr (hAn c hc))
  obtain ⟨⟨nb, r0, L0, shv, stv, LX, hown, _⟩, _⟩ := Z2
  unfold Lay.cs at hown
  rw [S.withylaw10_FieldAlone_c9_e2_eq]
  simp only [S.withylaw10_FieldAlone_c9_e2]
  have hc11 : S.withylaw10_FieldAlone_c11_S W x0 (.ptr w 0) (i0 : Nat) last (i : Nat) v ex (.ptr b 0) (j : Nat) g2 = some (.normal, S.withylaw10_FieldAlone_c11_O x0 (.ptr w 0) (.int .i64 (i0 : Nat)) (.int .i64 last) (.int .i64 (i : Nat)) (.int .i64 v) (.ptr b 0) (.int .i64 (j : Nat)) (.bool (decide (ex < -1 ∨ ex = last))), g2) := by
    by_cases h1 : ex < -1
    · simp only [S.withylaw10_FieldAlone_c11_S, h1, decide_true, true_or]
    · simp only [S.withylaw10_FieldAlone_c11_S, h1, decide_false, false_or]
  rw [S.withylaw10_FieldAlone_c11_eq, hc11, Option.bind_some]
  show Ev (S.withylaw10_FieldAlone_K11 W .normal _ g2) _
  rw [S.withylaw10_FieldAlone_c11_n_eq]
  simp only [S.withylaw10_FieldAlone_c11_n]
  have hj30 : decide ((j : Int) = 30) = false := decide_eq_false (by omega)
  have hc13 : S.withylaw10_FieldAlone_c13_S W x0 (.ptr w 0) (i0 : Nat) last (i : Nat) v (.ptr b 0) (j : Nat) (decide (ex < -1 ∨ ex = last)) g2 = some (.normal, S.withylaw10_FieldAlone_c13_O x0 .dead (.ptr w 0) (.int .i64 (i0 : Nat)) (.int .i64 last) (.int .i64 (i : Nat)) (.int .i64 v) (.bool (decide (ex < -1 ∨ ex = last))), g2) := by
    simp only [S.withylaw10_FieldAlone_c13_S, nilc_ptr, ptrAt_ptr, Option.bind_some, ld1_get', ldB_cells, List.getElem?_cons_zero, Nat.add_zero, Int.reduceNeg, V.one, Bool.not_true, eqV, hj30, hown, hla, BEq.rfl]
  rw [S.withylaw10_FieldAlone_c13_eq, hc13, Option.bind_some]
  show Ev (S.withylaw10_FieldAlone_K12 W .normal _ g2) _
  rw [S.withylaw10_FieldAlone_c13_n_eq]
  simp only [S.withylaw10_FieldAlone_c13_n]
  have key : ∃ last', (if decide (ex < -1 ∨ ex = last) then v else last) = last' ∧ Inv10 f2 i0 last' (5 + (i + 1)) := by
    refine ⟨_, rfl, ?_⟩
    cases hd : decide (ex < -1 ∨ ex = last) with
    | true =>
      rw [hla, hd] at hS
      exact I.laid hne (by omega) hv v0 v1 hS
    | false =>
      rw [hla, hd] at hS
      have : f2 = f := hS
      rw [this]; exact I.mono (by omega)
  obtain ⟨last', hl', I2⟩ := key
  have hc15 : S.withylaw10_FieldAlone_c15_S W x0 (.ptr w 0) (i0 : Nat) last (i : Nat) v (decide (ex < -1 ∨ ex = last)) g2 = some (.normal, S.withylaw10_FieldAlone_c15_O x0 (.ptr w 0) (.int .i64 (i0 : Nat)) (.int .i64 last') (.int .i64 (i : Nat)), g2) := by
    cases hd : decide (ex < -1 ∨ ex = last) with
    | true => rw [hd] at hl'; simp only [S.withylaw10_FieldAlone_c15_S]; rw [← hl']; rfl
    | false => rw [hd] at hl'; simp only [S.withylaw10_FieldAlone_c15_S]; rw [← hl']; rfl
  rw [S.withylaw10_FieldAlone_c15_eq, hc15, Option.bind_some]
  show Ev (S.withylaw10_FieldAlone_K13 W .normal _ g2) _
  rw [S.withylaw10_FieldAlone_c15_n_eq]
  have ok2 := F2.ok
  have hY2 := Y2.own
  have hNR := newRead_spec cfg10_R (q := 0) (i := i0) (by rw [hS40]; omega) hi0r A.bk ok2
  rw [hv10, z0] at hNR
  simp only [S.withylaw10_FieldAlone_c15_n, nilc_ptr, ptrAt_ptr, Option.bind_some, ld1_get', ldN_get', ldB_cells, ldNB_cells, List.getElem?_cons_zero, List.getElem?_cons_succ, Nat.zero_add, Nat.add_zero, Nat.reduceAdd, Nat.reduceLeDiff, V.one, List.length_cons, List.length_nil, decide_true, List.take_succ_cons, List.take_zero, List.drop_zero, W_call, hY2]
  refine Ev.bind hNR ?_
  rintro ⟨_, g3⟩ ⟨b3, L3, rfl, F3, hL3, Z3⟩
  dsimp only at F3 Z3 ⊢
  have hAl2 := Y2.base.lt ok2
  have hwl2 := ok2.lt Y2.own
  have Y3 := Y2.fr ok2 F3 (by simp) (by simp)
  have hLA3 : ∀ c ∈ L3, c ∉ A.l := fun c hc hA => absurd (hAl2 c hA) (Nat.not_lt_of_le (hL3 c hc))
  have hwL3 : w ∉ L3 := fun hc => absurd hwl2 (Nat.not_lt_of_le (hL3 w hc))
  have F03 : Fr [] h g3 := F02.trans F3 (by simp)
  have G3 := read_alone (k := cfg10) (m := 2) (f := f2) (B := B2) (Q := fun x => sl x.1.val = last' ∧ x.2.1 = f2) I2.rests (fun s' h1 => ⟨by rw [← I2.val]; exact h1, rfl⟩)
  refine fa_read F3.ok Y3 Z3 hLA3 hwL3 G3 _ _ ?_
  rintro s4 f4 n4 B4 L4 j4 g4 hj4 ⟨hval, hf4⟩ F4 Z4 Y4
  dsimp only at hval hf4 ⊢
  subst hf4
  obtain ⟨⟨nb4, r4, L04, hown4, _⟩, _⟩ := Z4
  rw [S.withylaw10_FieldAlone_c17_e4_eq]
  have wi : wr .i64 ((i : Int) + 1) = ((i + 1 : Nat) : Int) := by rw [wr64 (by omega) (by omega)]; rfl
  simp only [S.withylaw10_FieldAlone_c17_e4, nilc_ptr, ptrAt_ptr, Option.bind_some, ld1_get', ldB_cells, List.getElem?_cons_zero, List.getElem?_cons_succ, Nat.zero_add, V.one, asI_int, Bool.not_true, decide_true, hown4, hval, wi]
  exact Ev.some ⟨last', _, _, _, rfl, rfl, F03.trans F4 (by
    intro c hc
    rcases List.mem_append.mp hc with hc | hc
    · exact .inr (Nat.le_trans F02.le (hL3 c hc))
    · exact .inr (hAn c hc)), Y4, I2⟩

theorem fa_mod {n : Int} (h : 0 ≤ n ∧ n < 256) : wr .i64 ((wr .i64 (Int.tmod n 5)) - 1) = n % 5 - 1 := by
  rw [tm h.1, wr64 (n := n % 5) (by omega) (by omega), wr64 (by omega) (by omega)]
def slotZ (n : Int) : Int := if n % 5 - 1 < 0 then -1 else n % 5 - 1 + 1
theorem slotZ_bd (n : Int) : -1 ≤ slotZ n ∧ slotZ n ≤ 30 := by unfold slotZ; split <;> omega
theorem slotZ_spec (n : Int) (h : H) : C 129 [.int .i64 (n % 5 - 1)] h = some (.int .i64 (slotZ n), h) := slot10 (v := n % 5 - 1) (by omega) (by omega) h
theorem fa_d8 {n : Int} (h : 0 ≤ n ∧ n < 256) : wr .u8 (Int.tdiv n 8) = n / 8 ∧ (0 ≤ n / 8 ∧ n / 8 < 256) := by rw [td h.1]; simp only [wr]; omega
theorem fa_v1 {v : Int} (h : -1 ≤ v ∧ v ≤ 30) : wr .u64 (wr .i64 (v + 1)) = v + 1 ∧ U64 (v + 1) := by
  refine ⟨?_, ⟨by omega, by omega⟩⟩
  rw [wr64 (n := v + 1) (by omega) (by omega), wru64 (by omega) (by omega)]
theorem fa_i5 {i : Nat} (h : i < 30) : wr .i64 (5 + (i : Int)) = ((5 + i : Nat) : Int) := by rw [wr64 (by omega) (by omega)]; omega
theorem fa_lt {i l : Nat} (h : i < l) (hl : l ≤ 30) : i < 30 ∧ decide ((i : Int) < (l : Int)) = true ∧ 5 + i < 40 ∧ 5 + i ≠ 0 := ⟨by omega, decide_eq_true (by omega), by omega, by omega⟩
/-- One value. -/
theorem fa_body {h : H} {x0 : V} {vals : List Int} (hx : RowN .u8 h.get x0 vals) (ok : h.ok) (hx0 : ∀ b ∈ x0.blk, b < h.next) (hb : ∀ y ∈ vals, 0 ≤ y ∧ y < 256) (hlen : vals.length ≤ 30) {i0 : Nat} (hi0 : i0 < 3) {w : Nat} {A : Adr} (hwn : h.next ≤ w) (hAn : ∀ c ∈ A.l, h.next ≤ c)
    {i : Nat} {last : Int} {f : Wd → Int} {n : Int} {B : BookT} {g : H} (F0 : Fr [] h g) (Y : World10 g w A f n B) (I : Inv10 f i0 last (5 + i)) (hi : i < vals.length) :
    Ev (S.withylaw10_FieldAlone_c4_S W x0 (.ptr w 0) (i0 : Nat) last (i : Nat) g) fun r => ∃ last' f' n' B', r.1 = .normal ∧ r.2.1 = S.withylaw10_FieldAlone_c4_E x0 (.ptr w 0) (.int .i64 (i0 : Nat)) (.int .i64 last') (.int .i64 (i + 1 : Nat)) ∧ Fr [] h r.2.2 ∧ World10 r.2.2 w A f' n' B' ∧ Inv10 f' i0 last' (5 + (i + 1)) := by
  have hv10 : cfg10.v = .agg [.int .i64 40, .int .i64 3, .int .i64 1, .int .i64 1, .int .i64 9, .int .i64 0] := rfl
  have ok0 := F0.ok
  have hS40 : cfg10.S = 40 := rfl
  obtain ⟨hi30, hd, h540, h5n⟩ := fa_lt hi hlen
  obtain ⟨n3, hn3⟩ : ∃ n3, vals[i]? = some n3 := ⟨_, List.getElem?_eq_getElem hi⟩
  have hn := hb n3 (List.mem_of_getElem? hn3)
  obtain ⟨xb, hix, hld⟩ := (hx.fr ok F0 (by simp)).at hn3
  have hl := (hx.fr ok F0 (by simp) : RowN .u8 g.get x0 vals).len
  have w1 := fa_mod hn
  have hs := slotZ_spec n3
  obtain ⟨v0, v1⟩ := slotZ_bd n3
  generalize slotZ n3 = v at hs v0 v1
  have hat := at10 (l := .body (5 + i) 0) ⟨h540, by show 0 < 3; decide⟩
  have hat' : ∀ h, C 131 [.agg [.int .i64 40, .int .i64 3, .int .i64 1, .int .i64 1, .int .i64 9, .int .i64 0], .str ⟨⟨[98, 111, 100, 121]⟩⟩, .int .i64 ((5 + i : Nat) : Int), .int .i64 0] h = some (.int .i64 ((Wd.body (5 + i) 0).pos cfg10 : Nat), h) := hat
  have w5 := fa_i5 hi30
  obtain ⟨wv, uv⟩ := fa_v1 ⟨v0, v1⟩
  have hY := Y.own
  simp only [S.withylaw10_FieldAlone_c4_S, nilc_ptr, ptrAt_ptr, Option.bind_some, ld1_get', ldN_get', st_get', ldB_cells, ldNB_cells, List.getElem?_cons_zero, List.getElem?_cons_succ, Nat.zero_add, Nat.add_zero, Nat.reduceAdd, Nat.reduceLeDiff, Int.reduceNeg, V.one, V.cells, V.beq, ckB_some, asI_int, List.length_cons, List.length_nil, Nat.beq_refl, Bool.and_self, decide_true, List.take_succ_cons, List.take_zero, List.drop_zero, W_call, hl, hd, hix, hld, w1, hs, hY, w5, hat', wv]
  refine Ev.bind (laid10 Y.base ok0 (l := .body (5 + i) 0) ⟨h540, by show 0 < 3; decide⟩ (v := v + 1) uv) ?_
  rintro ⟨_, g1⟩ ⟨rfl, F1, E1⟩
  dsimp only at F1 E1 ⊢
  have hAw := Y.out
  unfold Adr.l at hAw
  simp only [List.mem_cons, List.not_mem_nil, or_false, not_or] at hAw
  have Y1 := Y.to ok0 F1 (by simp [hAw.1, hAw.2.1]) E1
  have hY1 := Y1.own
  simp only [Option.bind_some, Option.map_some, stB_cells, Nat.zero_add, Nat.reduceAdd, Nat.reduceLeDiff, Int.reduceNeg, V.one, List.length_cons, List.length_nil, Nat.beq_refl, List.all_cons, List.all_nil, Bool.not_true, Bool.or_self, Bool.and_self, decide_true, decide_false, splice, List.take_succ_cons, List.take_zero, List.drop_succ_cons, List.drop_zero, List.cons_append, List.nil_append, reduceCtorEq, hY1]
  have hwl := F1.ok.lt hY1
  have F2 : Fr [w] g1 (g1.put w (some (.cells [.int .i64 40, .int .i64 3, .int .i64 1, .int .i64 1, .int .i64 9, .int .i64 0, .ptr A.p 0, .ptr A.bk 0, .int .i64 5, .nilsl, .bool false] .rw))) := (Fr.refl F1.ok).put (.inl (by simp)) hwl _
  have Y2 : World10 (g1.put w (some (.cells [.int .i64 40, .int .i64 3, .int .i64 1, .int .i64 1, .int .i64 9, .int .i64 0, .ptr A.p 0, .ptr A.bk 0, .int .i64 5, .nilsl, .bool false] .rw))) w A _ _ B :=
    ⟨get_put_self _ _ _, Y.out, E1.fr F1.ok F2 (fun c hc h => Y.out (by simp only [List.mem_singleton] at h; rw [← h]; exact hc))⟩
  generalize (g1.put w (some (.cells [.int .i64 40, .int .i64 3, .int .i64 1, .int .i64 1, .int .i64 9, .int .i64 0, .ptr A.p 0, .ptr A.bk 0, .int .i64 5, .nilsl, .bool false] .rw))) = g2 at F2 Y2
  have hA1 : h.next ≤ A.p := hAn _ (by unfold Adr.l; simp)
  have hA2 : h.next ≤ A.pw := hAn _ (by unfold Adr.l; simp)
  have F02 : Fr [] h g2 := (F0.trans F1 (by simp only [List.mem_cons, List.not_mem_nil, or_false, false_or, forall_eq_or_imp, forall_eq]; exact ⟨hA1, hA2⟩)).trans F2 (by simp only [List.mem_cons, List.not_mem_nil, or_false, false_or, forall_eq]; exact hwn)
  have I2 := I.value (r := 5 + i) h5n (v + 1)
  have hv2 : wset f (.body (5 + i) 0) (v + 1) (.body (5 + i) 0) = v + 1 := wset_same _ _ _
  obtain ⟨xb2, hix2, hld2⟩ := (hx.fr ok F02 (by simp)).at hn3
  have hc7 : ∃ ex, S.withylaw10_FieldAlone_c7_S W x0 (.ptr w 0) (i0 : Nat) last (i : Nat) v (-2) g2 = some (.normal, S.withylaw10_FieldAlone_c7_O x0 (.ptr w 0) (.int .i64 (i0 : Nat)) (.int .i64 last) (.int .i64 (i : Nat)) (.int .i64 v) (.int .i64 ex), g2) := by
    by_cases hp : Int.tmod n3 2 = 1
    · obtain ⟨w8, hn8⟩ := fa_d8 hn
      have w9 := fa_mod hn8
      have hs8 := slotZ_spec (n3 / 8)
      exact ⟨slotZ (n3 / 8), by simp only [S.withylaw10_FieldAlone_c7_S, Option.bind_some, asI_int, decide_true, W_call, hix2, hld2, hp, w8, w9, hs8]⟩
    · exact ⟨-2, by simp only [S.withylaw10_FieldAlone_c7_S, Option.bind_some, Int.reduceNeg, asI_int, decide_false, hix2, hld2, hp]⟩
  obtain ⟨ex, hc7⟩ := hc7
  rw [S.withylaw10_FieldAlone_c7_eq, hc7, Option.bind_some]
  show Ev (S.withylaw10_FieldAlone_K8 W .normal _ g2) _
  rw [S.withylaw10_FieldAlone_c7_n_eq]
  exact fa_rest hx ok hx0 hi0 hwn hAn F02 Y2 I2 hi30 hv2 v0 v1 hn3 hn

def shFieldAlone : List (Bool × List CSh) := [(false, [.sl 1 [.int .u8]]), (false, [.int .u8])]

theorem wf_u8 {n : Int} (h : (Go.Lit.int .u8 n).wf = true) : 0 ≤ n ∧ n < 256 := by
  have : 0 ≤ n ∧ n ≤ 255 := by simpa [Go.Lit.wf, Go.IntKind.min, Go.IntKind.max, Go.IntKind.signed, Go.IntKind.bits] using h
  exact ⟨this.1, by omega⟩

theorem lawFieldAlone (h : H) (us : List V) (ok : h.ok) (ha : ArgsOk h.get shFieldAlone us) : Ev (C 20 us h) fun r => r.1 = .bool true := by
  obtain ⟨_, _, rfl, ⟨_, _, hx, hxc, rfl⟩, _, _, rfl, ⟨_, _, hn, ⟨n, rfl, bn⟩, rfl⟩, rfl⟩ := ha
  cases hx; cases hn
  rename_i x0
  obtain ⟨vals, hx, hw, _, _⟩ := rowN_of hxc
  have hn := wf_u8 bn
  have hlt := hx.lt ok
  refine call_ev (af := F.withylaw10_FieldAlone) (by kernel_rfl) rfl ?_
  rw [S.withylaw10_FieldAlone_eq]
  by_cases h30 : 30 < vals.length
  · have hd : decide ((30 : Int) < (vals.length : Int)) = true := decide_eq_true (by omega)
    simp only [S.withylaw10_FieldAlone, Option.bind_some, W_call, hx.len, hd, awake10]
    exact Ev.some rfl
  have hd : decide ((30 : Int) < (vals.length : Int)) = false := decide_eq_false (by omega)
  have hlen : vals.length ≤ 30 := Nat.le_of_not_lt h30
  obtain ⟨i0, hi0, hw3⟩ : ∃ i0 : Nat, i0 < 3 ∧ wr .i64 (Int.tmod n 3) = (i0 : Int) := ⟨(n % 3).toNat, by omega, by rw [tm hn.1, wr64 (by omega) (by omega)]; omega⟩
  simp only [S.withylaw10_FieldAlone, Option.bind_some, asB_bool, Bool.not_true, W_call, hx.len, hd, awake10, hw3]
  refine Ev.bind (begin10_spec ok) ?_
  rintro ⟨_, g1⟩ ⟨w, A, rfl, F1, hwn, hAn, Y1⟩
  dsimp only at F1 Y1 ⊢
  have hY1 := Y1.own
  have hv10 : cfg10.v = .agg [.int .i64 40, .int .i64 3, .int .i64 1, .int .i64 1, .int .i64 9, .int .i64 0] := rfl
  have hNR := newRead_spec cfg10_R (q := 0) (i := i0) (by decide) (by show i0 < 3; exact hi0) A.bk F1.ok
  rw [hv10, show ((0 : Nat) : Int) = 0 from rfl] at hNR
  simp only [nilc_ptr, ptrAt_ptr, Option.bind_some, ld1_get', ldN_get', ldB_cells, ldNB_cells, List.getElem?_cons_zero, List.getElem?_cons_succ, Nat.zero_add, Nat.add_zero, Nat.reduceAdd, Nat.reduceLeDiff, V.one, List.length_cons, List.length_nil, decide_true, List.take_succ_cons, List.take_zero, List.drop_zero, hY1]
  refine Ev.bind hNR ?_
  rintro ⟨_, g2⟩ ⟨b, L, rfl, F2, hL, Z2⟩
  dsimp only at F2 Z2 ⊢
  have hAl := Y1.base.lt F1.ok
  have hwl := F1.ok.lt Y1.own
  have Y2 := Y1.fr F1.ok F2 (by simp) (by simp)
  have hLA : ∀ c ∈ L, c ∉ A.l := fun c hc hA => absurd (hAl c hA) (Nat.not_lt_of_le (hL c hc))
  have hwL : w ∉ L := fun hc => absurd hwl (Nat.not_lt_of_le (hL w hc))
  have F02 : Fr [] h g2 := F1.trans F2 (by simp)
  have hY2 := Y2.own
  have hc2 : Ev (S.withylaw10_FieldAlone_c2_S W x0 (.ptr w 0) (i0 : Nat) (.ptr b 0) g2) fun r => r.1 = .normal ∧ r.2.1 = S.withylaw10_FieldAlone_c2_O x0 (.ptr w 0) (.int .i64 (i0 : Nat)) (.bool false) ∧ Fr (L ++ A.l) g2 r.2.2 ∧ ∃ n' , World10 r.2.2 w A (beg10 cfg10.S) n' .new := by
    simp only [S.withylaw10_FieldAlone_c2_S, nilc_ptr, eqPtr_ptr, ptrAt_ptr, Option.bind_some, ld1_get', ldB_cells, List.getElem?_cons_zero, List.getElem?_cons_succ, Nat.zero_add, Nat.add_zero, Int.reduceNeg, V.one, eqV, W_call, hY2]
    have hst := Z2.step F2.ok cfg10_R Y2.base hLA
    have e1 : Read.step ⟨none, none, 0, .fresh (.body 0 i0), 0⟩ cfg10 (beg10 cfg10.S) .new = (⟨none, none, BookT.new.now, ⟨.body 0 i0, none, BookT.new.now, none, 2⟩, 2⟩, beg10 cfg10.S, .new) := by
      have h0 : namedO cfg10 (beg10 cfg10.S (.body 0 i0)) = none := rfl
      simp only [Read.step, Newest.step, Newest.fresh, Int.reduceEq, if_false, if_true, h0]
    rw [e1] at hst
    refine Ev.bind hst ?_
    rintro ⟨_, g3⟩ ⟨rfl, L3, F3, Z3, hL3, E3⟩
    dsimp only at F3 Z3 E3 ⊢
    obtain ⟨⟨nb, r0, L0, hown, _⟩, _⟩ := Z3
    have hm1 : sl none = -1 := rfl
    simp only [Option.bind_some, ldB_cells, List.getElem?_cons_zero, List.getElem?_cons_succ, Int.reduceNeg, V.one, asI_int, asB_bool, Bool.not_true, decide_true, hown, hm1, awake10]
    exact Ev.some ⟨rfl, rfl, F3, _, Y2.to F2.ok F3 (by simp only [List.mem_append, not_or]; exact ⟨hwL, Y2.out⟩) E3⟩
  rw [S.withylaw10_FieldAlone_c2_eq]
  refine Ev.bind hc2 ?_
  rintro ⟨_, _, g3⟩ ⟨rfl, rfl, F3, n3, Y3⟩
  dsimp only at F3 Y3 ⊢
  rw [S.withylaw10_FieldAlone_c2_n_eq]
  simp only [S.withylaw10_FieldAlone_c2_n]
  have F03 : Fr [] h g3 := F02.trans F3 (by
    intro c hc
    rcases List.mem_append.mp hc with hc | hc
    · exact .inr (Nat.le_trans F1.le (hL c hc))
    · exact .inr (hAn c hc))
  refine loop_ev (α := Nat × Int × (Wd → Int) × Int × BookT) (fun y => S.withylaw10_FieldAlone_c4_E x0 (.ptr w 0) (.int .i64 (i0 : Nat)) (.int .i64 y.2.1) (.int .i64 (y.1 : Nat)))
    (fun y g => y.1 ≤ vals.length ∧ Fr [] h g ∧ World10 g w A y.2.2.1 y.2.2.2.1 y.2.2.2.2 ∧ Inv10 y.2.2.1 i0 y.2.1 (5 + y.1))
    (fun y _ => vals.length - y.1)
    (fun r => r.1 = .exit 0 ∧ r.2.1 = S.withylaw10_FieldAlone_c4_O .dead)
    (0, -1, beg10 cfg10.S, n3, .new) rfl ⟨Nat.zero_le _, F03, Y3, Inv10.begin⟩ ?_ ?_
  rotate_left
  · rintro ⟨x, env, g⟩ ⟨rfl, rfl⟩
    rw [S.withylaw10_FieldAlone_c4_e0_eq]
    exact Ev.some rfl
  rintro ⟨i, last, f, n', B⟩ g ⟨hi, F, Y, I⟩
  dsimp only at hi Y I ⊢
  rw [S.withylaw10_FieldAlone_c4_eq]
  by_cases hil : i < vals.length
  · refine (fa_body hx ok hlt (fun y hy => wf_u8 (hw y hy)) hlen hi0 hwn hAn F Y I hil).mono ?_
    rintro ⟨x, env, g'⟩ ⟨last', f', n'', B', rfl, rfl, F', Y', I'⟩
    exact .inl ⟨(i + 1, last', f', n'', B'), rfl, rfl, ⟨hil, F', Y', I'⟩, Nat.sub_lt_sub_left hil (Nat.lt_succ_self i)⟩
  · have hd1 : decide ((i : Int) < (vals.length : Int)) = false := decide_eq_false (by omega)
    have hl := (hx.fr ok F (by simp) : RowN .u8 g.get x0 vals).len
    simp only [S.withylaw10_FieldAlone_c4_S, Option.bind_some, hl, hd1]
    exact Ev.some (.inr ⟨by simp, rfl, rfl⟩)
end Wm
end

