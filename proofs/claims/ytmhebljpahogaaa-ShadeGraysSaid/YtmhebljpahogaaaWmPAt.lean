/- Where a word stands: withyref06.At, and that it is where plan says. -/
import Derived.Test.YtmhebljpahogaaaWmPWords
import Derived.Test.YtmhebljpahogaaaWmPPlace
import Derived.Test.YtmhebljpahogaaaWmOpen
import Derived.Test.YtmhebljpahogaaaWmTxtShadeGraysA
set_option linter.all false
namespace Wm

abbrev wordEq : Eq' := .agg [(0, .str), (1, .int), (2, .int)]

theorem wordEq_self (nm : ByteArray) (who k : Int) : eqV wordEq (.agg [.str nm, .int .i64 who, .int .i64 k]) (.agg [.str nm, .int .i64 who, .int .i64 k]) = some true := by
  simp [eqV, aggCells, eqOffs, eqCell]

theorem Acc.part {h : H} {F : Option Blk} {L : List (Option Blk)} {x : V} {n : Nat} {l : List V} (ok : h.ok) (hA : Acc h L x 3 n l) {i : Nat} (hi : i < n) : ∃ p, indexAV 3 x (.int .i64 (i : Int)) = some p ∧ (h.ext (F :: L)).ldN 3 p = some (.agg ((l.drop (i * 3)).take 3)) := by
  obtain ⟨hl, _, j, hj⟩ := hA
  have hle : i * 3 + 3 ≤ l.length := by omega
  have key : ∀ k, L[j]? = some (some (.cells l k)) → (h.ext (F :: L)).ldN 3 (.ptr (h.next + (j + 1)) (i * 3)) = some (.agg ((l.drop (i * 3)).take 3)) := fun k hk => by
    rw [H.ext_ldNk ok]
    simp only [List.getElem?_cons_succ, hk, Option.join_some, ldNB_cells, decide_eq_true hle]
  rcases hj with ⟨rfl, hjL⟩ | ⟨rfl, hjL⟩
  · refine ⟨.ptr (h.next + (j + 1)) (i * 3), ?_, key _ hjL⟩
    rw [indexAV_in (by omega) (by omega)]; simp
  · refine ⟨.ptr (h.next + (j + 1)) (i * 3), ?_, key _ hjL⟩
    rw [indexAV_in (by omega) (by omega)]; simp

theorem Acc.len {h : H} {L : List (Option Blk)} {x : V} {e n : Nat} {l : List V} (hA : Acc h L x e n l) : lenSl x = some n := by
  obtain ⟨_, _, j, ⟨rfl, _⟩ | ⟨rfl, _⟩⟩ := hA <;> rfl

theorem at_spec {s a c hd g st : Int} (hr : cfgR s a c hd g st = true) {nm : ByteArray} {who k : Int} {pre : List (List V)} {post : List V}
    (hw : wordsW s.toNat (if a < 3 then 3 else a).toNat c.toNat hd.toNat = pre.flatten ++ ([.str nm, .int .i64 who, .int .i64 k] ++ post))
    (hp : ∀ e ∈ pre, e.length = 3 ∧ eqV wordEq (.agg e) (.agg [.str nm, .int .i64 who, .int .i64 k]) = some false) (hpl : pre.length ≤ 100000) (h : H) :
    C 108 [cfgV s a c hd g st, .agg [.str nm, .int .i64 who, .int .i64 k]] h = some (.int .i64 (pre.length : Nat), h) := by
  refine call_closed (af := F.withyref06_At) (by kernel_rfl) rfl (by rfl) (by rfl) h ?_
  have ok := H.ok_empty
  have hR := ref06Right_spec s a c hd g st
  obtain ⟨x, L, hW, hA⟩ := words_spec hr (ok.ext [some (.cells [.int .i64 s, .int .i64 a, .int .i64 c, .int .i64 hd, .int .i64 g, .int .i64 st] .rw), some (.cells [.str nm, .int .i64 who, .int .i64 k] .rw)])
  rw [hr] at hR
  have ok2 := ok.ext [some (Blk.cells [.int .i64 s, .int .i64 a, .int .i64 c, .int .i64 hd, .int .i64 g, .int .i64 st] .rw), some (.cells [.str nm, .int .i64 who, .int .i64 k] .rw)]
  have hT : ∀ l, ((H.empty.ext [some (Blk.cells [.int .i64 s, .int .i64 a, .int .i64 c, .int .i64 hd, .int .i64 g, .int .i64 st] .rw), some (.cells [.str nm, .int .i64 who, .int .i64 k] .rw)]).ext l).ldN 3 (.ptr (H.empty.next + 1) 0) = some (.agg [.str nm, .int .i64 who, .int .i64 k]) := fun l => by
    rw [H.ext_ext, H.ext_ldNk ok]; rfl
  have hlw := hA.1
  rw [hw] at hA hlw
  have hfl : pre.flatten.length = pre.length * 3 := flat_length fun e he => (hp e he).1
  have hlen : pre.length < sizeW s.toNat (if a < 3 then 3 else a).toNat c.toNat hd.toNat := by
    rw [List.length_append, List.length_append, hfl] at hlw
    simp only [List.length_cons, List.length_nil] at hlw
    omega
  generalize sizeW s.toNat (if a < 3 then 3 else a).toNat c.toNat hd.toNat = n at hA hlen
  unfold cfgV at hR hW ⊢
  rw [S.withyref06_At_eq]
  simp only [S.withyref06_At, H.new_ext, H.ext_ext, H.ext_next, H.ext_ldNk_0, H.ext_ldNk, H.ext_ldk_0, H.ext_ldk, H.ext_stk_0, H.ext_stk, ok, ldB_cells, ldNB_cells, stB_cells, V.one, V.cells, List.length_cons, List.length_nil, List.length_append, List.length_singleton, Nat.zero_add, Nat.add_zero, Nat.reduceAdd, Nat.reduceLeDiff, Nat.reduceLT, Nat.reduceMul, Nat.reduceSub, Int.reduceEq, Int.reduceLT, Int.reduceLE, if_true, if_false, or_self, or_false, false_or, or_true, true_or, Nat.zero_lt_one, Nat.lt_add_one, Nat.zero_lt_succ, Nat.add_assoc, decide_true, decide_false, List.getElem?_cons_zero, List.getElem?_cons_succ, List.cons_append, List.nil_append, List.append_assoc, List.drop_zero, List.drop_succ_cons, List.take_succ_cons, List.take_zero, List.set_cons_zero, List.set_cons_succ, splice, List.all_cons, List.all_nil, Bool.and_true, Bool.not_true, Bool.not_false, Bool.or_false, Option.bind_some, Option.map_some, Option.join_some, ckB_some, V.beq, V.beqs, Nat.beq_refl, BEq.rfl, Bool.and_self, fill, opd, boxc, finV, resAllV, resOfV, result, eqV, aggCells, eqOffs, eqCell, asI_int, asB_bool, ptrAt_ptr, reduceCtorEq, W_call, hR]
  simp only [hW, Option.bind_some]
  generalize hH : (H.empty.ext [some (Blk.cells [.int .i64 s, .int .i64 a, .int .i64 c, .int .i64 hd, .int .i64 g, .int .i64 st] .rw), some (.cells [.str nm, .int .i64 who, .int .i64 k] .rw)]) = hh at hA hT ok2 ⊢
  refine loop_ev (fun i : Nat => S.withyref06_At_c1_E (.ptr (H.empty.next + 1) 0) x (.int .i64 (i : Nat))) (fun i g' => i ≤ pre.length ∧ g' = hh.ext (some (.cells [.int .i64 s, .int .i64 a, .int .i64 c, .int .i64 hd, .int .i64 g, .int .i64 st] .rw) :: L)) (fun i _ => pre.length - i)
    (fun r => r = (.ret, S.withyref06_At_c1_O (.int .i64 (pre.length : Nat)), hh.ext (some (.cells [.int .i64 s, .int .i64 a, .int .i64 c, .int .i64 hd, .int .i64 g, .int .i64 st] .rw) :: L))) 0 rfl ⟨Nat.zero_le _, rfl⟩ ?_ ?_
  · rintro i g' ⟨hi, rfl⟩
    rw [S.withyref06_At_c1_eq]
    obtain ⟨p, e1, e2⟩ := hA.part (F := some (.cells [.int .i64 s, .int .i64 a, .int .i64 c, .int .i64 hd, .int .i64 g, .int .i64 st] .rw)) ok2 (show i < n by omega)
    simp only [S.withyref06_At_c1_S, hA.len, Option.bind_some, show (i : Int) < ((n : Nat) : Int) by omega, decide_true, e1, e2, hT]
    by_cases hip : i < pre.length
    · have hpi : pre[i]? = some pre[i] := List.getElem?_eq_getElem hip
      have hel : ((pre.flatten ++ ([V.str nm, V.int .i64 who, V.int .i64 k] ++ post)).drop (i * 3)).take 3 = pre[i] := by
        rw [List.drop_append_of_le_length (by omega), List.take_append_of_le_length (by rw [List.length_drop]; omega)]
        exact flat_part (fun e he => (hp e he).1) i _ hpi
      rw [hel, (hp _ (List.getElem_mem hip)).2]
      have hw1 : wr .i64 ((i : Int) + 1) = ((i + 1 : Nat) : Int) := by rw [wr64 (by omega) (by omega)]; rfl
      simp only [Option.bind_some, hw1]
      exact Ev.some (Or.inl ⟨i + 1, rfl, rfl, ⟨hip, rfl⟩, by omega⟩)
    · have : i = pre.length := by omega
      subst this
      have hel : ((pre.flatten ++ ([V.str nm, V.int .i64 who, V.int .i64 k] ++ post)).drop (pre.length * 3)).take 3 = [V.str nm, V.int .i64 who, V.int .i64 k] := by
        rw [List.drop_left' hfl]; rfl
      rw [hel, wordEq_self]
      simp only [Option.bind_some]
      exact Ev.some (Or.inr ⟨by simp, rfl⟩)
  · rintro r rfl
    simp only
    rw [S.withyref06_At_c1_r_eq]
    exact Ev.some rfl

theorem flatten_flatMap' {α β : Type} (f : α → List (List β)) : ∀ l : List α, (l.flatMap f).flatten = l.flatMap fun x => (f x).flatten
  | [] => rfl
  | x :: l => by rw [List.flatMap_cons, List.flatten_append, flatten_flatMap' f l, List.flatMap_cons]

theorem length_flatMap_const {α β : Type} {f : α → List β} {m : Nat} : ∀ {l : List α}, (∀ x ∈ l, (f x).length = m) → (l.flatMap f).length = l.length * m
  | [], _ => by simp
  | x :: l, h => by
    rw [List.flatMap_cons, List.length_append, h x (by simp), length_flatMap_const fun y hy => h y (by simp [hy]), List.length_cons, Nat.add_mul]
    omega

def oneE : List (List V) := [[.str ⟨⟨[99, 108, 111, 99, 107]⟩⟩, .int .i64 0, .int .i64 0], [.str ⟨⟨[101, 112, 111, 99, 104]⟩⟩, .int .i64 0, .int .i64 0], [.str ⟨⟨[103, 114, 97, 121, 115]⟩⟩, .int .i64 0, .int .i64 0], [.str ⟨⟨[116, 111, 112]⟩⟩, .int .i64 0, .int .i64 0]]
def slotE (room q : Nat) : List (List V) := [[.str ⟨⟨[104, 101, 97, 100, 101, 114]⟩⟩, .int .i64 q, .int .i64 0], [.str ⟨⟨[108, 105, 110, 107]⟩⟩, .int .i64 q, .int .i64 0]] ++ (List.range room).map (bodyW q)
def viewE (q : Nat) : List (List V) := [[.str ⟨⟨[118, 105, 101, 119]⟩⟩, .int .i64 q, .int .i64 0], [.str ⟨⟨[115, 116, 97, 114, 116]⟩⟩, .int .i64 q, .int .i64 0]]
/-- What stands ahead of the slots; ahead of a slot. -/
def aheadE (c hd : Nat) : List (List V) := oneE ++ (List.range c).map pinW ++ (List.range c).flatMap (fun q => (List.range hd).map (entryW q)) ++ (List.range c).flatMap viewE
def preE (room c hd k : Nat) : List (List V) := aheadE c hd ++ (List.range k).flatMap (slotE room)

theorem slotE_flatten (room q : Nat) : (slotE room q).flatten = slotW room q := by
  unfold slotE slotW headW
  rw [List.flatten_append, ← List.flatMap_def]; rfl

theorem aheadE_flatten (c hd : Nat) : (aheadE c hd).flatten = oneW ++ (List.range c).flatMap pinW ++ (List.range c).flatMap (fun q => (List.range hd).flatMap (entryW q)) ++ (List.range c).flatMap viewW := by
  unfold aheadE
  rw [List.flatten_append, List.flatten_append, List.flatten_append, ← List.flatMap_def, flatten_flatMap', flatten_flatMap']
  congr 1

theorem preE_length (room c hd k : Nat) : (preE room c hd k).length = 4 + c + c * hd + c * 2 + k * (2 + room) := by
  unfold preE aheadE
  rw [List.length_append, List.length_append, List.length_append, List.length_append, List.length_map, List.length_range, length_flatMap_const (m := hd) (fun q _ => by simp), length_flatMap_const (m := 2) (fun q _ => rfl), length_flatMap_const (m := 2 + room) (fun q _ => by simp [slotE]; omega)]
  simp [oneE]

theorem words_split (S room c hd k : Nat) (hk : k < S) : ∃ post, wordsW S room c hd = (preE room c hd k).flatten ++ ([.str ⟨⟨[104, 101, 97, 100, 101, 114]⟩⟩, .int .i64 k, .int .i64 0] ++ post) := by
  obtain ⟨m, rfl⟩ : ∃ m, S = k + (m + 1) := ⟨S - k - 1, by omega⟩
  have h1 : List.range (k + (m + 1)) = List.range k ++ k :: List.range' (k + 1) m := by
    rw [List.range_add, ← List.range'_eq_map_range, List.range'_succ]
  have h2 : slotW room k = [.str ⟨⟨[104, 101, 97, 100, 101, 114]⟩⟩, .int .i64 k, .int .i64 0] ++ ([.str ⟨⟨[108, 105, 110, 107]⟩⟩, .int .i64 k, .int .i64 0] ++ (List.range room).flatMap (bodyW k)) := rfl
  refine ⟨[.str ⟨⟨[108, 105, 110, 107]⟩⟩, .int .i64 k, .int .i64 0] ++ (List.range room).flatMap (bodyW k) ++ (List.range' (k + 1) m).flatMap (slotW room), ?_⟩
  have h3 : ((List.range k).flatMap (slotE room)).flatten = (List.range k).flatMap (slotW room) := by
    rw [flatten_flatMap']
    exact congrArg (fun f => (List.range k).flatMap f) (funext fun q => slotE_flatten room q)
  unfold wordsW preE
  rw [h1, List.flatMap_append, List.flatMap_cons, List.flatten_append, aheadE_flatten, h3, h2]
  simp only [List.append_assoc]

theorem name_ne {a b : ByteArray} (hn : (a.toList == b.toList) = false) (x y z w : Int) : eqV wordEq (.agg [.str a, .int .i64 x, .int .i64 y]) (.agg [.str b, .int .i64 z, .int .i64 w]) = some false := by
  simp [eqV, aggCells, eqOffs, eqCell, hn]
theorem ne_clock (x y z w : Int) : eqV wordEq (.agg [.str ⟨⟨[99, 108, 111, 99, 107]⟩⟩, .int .i64 x, .int .i64 y]) (.agg [.str ⟨⟨[104, 101, 97, 100, 101, 114]⟩⟩, .int .i64 z, .int .i64 w]) = some false := name_ne (by kernel_rfl) x y z w
theorem ne_epoch (x y z w : Int) : eqV wordEq (.agg [.str ⟨⟨[101, 112, 111, 99, 104]⟩⟩, .int .i64 x, .int .i64 y]) (.agg [.str ⟨⟨[104, 101, 97, 100, 101, 114]⟩⟩, .int .i64 z, .int .i64 w]) = some false := name_ne (by kernel_rfl) x y z w
theorem ne_grays (x y z w : Int) : eqV wordEq (.agg [.str ⟨⟨[103, 114, 97, 121, 115]⟩⟩, .int .i64 x, .int .i64 y]) (.agg [.str ⟨⟨[104, 101, 97, 100, 101, 114]⟩⟩, .int .i64 z, .int .i64 w]) = some false := name_ne (by kernel_rfl) x y z w
theorem ne_top (x y z w : Int) : eqV wordEq (.agg [.str ⟨⟨[116, 111, 112]⟩⟩, .int .i64 x, .int .i64 y]) (.agg [.str ⟨⟨[104, 101, 97, 100, 101, 114]⟩⟩, .int .i64 z, .int .i64 w]) = some false := name_ne (by kernel_rfl) x y z w
theorem ne_pin (x y z w : Int) : eqV wordEq (.agg [.str ⟨⟨[112, 105, 110]⟩⟩, .int .i64 x, .int .i64 y]) (.agg [.str ⟨⟨[104, 101, 97, 100, 101, 114]⟩⟩, .int .i64 z, .int .i64 w]) = some false := name_ne (by kernel_rfl) x y z w
theorem ne_entry (x y z w : Int) : eqV wordEq (.agg [.str ⟨⟨[101, 110, 116, 114, 121]⟩⟩, .int .i64 x, .int .i64 y]) (.agg [.str ⟨⟨[104, 101, 97, 100, 101, 114]⟩⟩, .int .i64 z, .int .i64 w]) = some false := name_ne (by kernel_rfl) x y z w
theorem ne_view (x y z w : Int) : eqV wordEq (.agg [.str ⟨⟨[118, 105, 101, 119]⟩⟩, .int .i64 x, .int .i64 y]) (.agg [.str ⟨⟨[104, 101, 97, 100, 101, 114]⟩⟩, .int .i64 z, .int .i64 w]) = some false := name_ne (by kernel_rfl) x y z w
theorem ne_start (x y z w : Int) : eqV wordEq (.agg [.str ⟨⟨[115, 116, 97, 114, 116]⟩⟩, .int .i64 x, .int .i64 y]) (.agg [.str ⟨⟨[104, 101, 97, 100, 101, 114]⟩⟩, .int .i64 z, .int .i64 w]) = some false := name_ne (by kernel_rfl) x y z w
theorem ne_link (x y z w : Int) : eqV wordEq (.agg [.str ⟨⟨[108, 105, 110, 107]⟩⟩, .int .i64 x, .int .i64 y]) (.agg [.str ⟨⟨[104, 101, 97, 100, 101, 114]⟩⟩, .int .i64 z, .int .i64 w]) = some false := name_ne (by kernel_rfl) x y z w
theorem ne_body (x y z w : Int) : eqV wordEq (.agg [.str ⟨⟨[98, 111, 100, 121]⟩⟩, .int .i64 x, .int .i64 y]) (.agg [.str ⟨⟨[104, 101, 97, 100, 101, 114]⟩⟩, .int .i64 z, .int .i64 w]) = some false := name_ne (by kernel_rfl) x y z w

theorem pre_ne (room c hd k : Nat) : ∀ e ∈ preE room c hd k, e.length = 3 ∧ eqV wordEq (.agg e) (.agg [.str ⟨⟨[104, 101, 97, 100, 101, 114]⟩⟩, .int .i64 k, .int .i64 0]) = some false := by
  intro e he
  unfold preE aheadE at he
  simp only [List.mem_append, List.mem_flatMap, List.mem_map, List.mem_range] at he
  rcases he with (((he | ⟨q, _, rfl⟩) | ⟨q, _, i, _, rfl⟩) | ⟨q, _, he⟩) | ⟨q, hq, he⟩
  · simp only [oneE, List.mem_cons, List.not_mem_nil, or_false] at he
    rcases he with rfl | rfl | rfl | rfl
    · exact ⟨rfl, ne_clock _ _ _ _⟩
    · exact ⟨rfl, ne_epoch _ _ _ _⟩
    · exact ⟨rfl, ne_grays _ _ _ _⟩
    · exact ⟨rfl, ne_top _ _ _ _⟩
  · exact ⟨rfl, ne_pin _ _ _ _⟩
  · exact ⟨rfl, ne_entry _ _ _ _⟩
  · simp only [viewE, List.mem_cons, List.not_mem_nil, or_false] at he
    rcases he with rfl | rfl
    · exact ⟨rfl, ne_view _ _ _ _⟩
    · exact ⟨rfl, ne_start _ _ _ _⟩
  · simp only [slotE, List.mem_append, List.mem_cons, List.not_mem_nil, or_false, List.mem_map, List.mem_range] at he
    rcases he with (rfl | rfl) | ⟨i, _, rfl⟩
    · refine ⟨rfl, ?_⟩
      have : ¬ ((q : Int) = (k : Int)) := by omega
      simp [eqV, aggCells, eqOffs, eqCell, this]
    · exact ⟨rfl, ne_link _ _ _ _⟩
    · exact ⟨rfl, ne_body _ _ _ _⟩

theorem atHeader_spec {s a c hd g st : Int} (hr : cfgR s a c hd g st = true) {k : Int} (h0 : 0 ≤ k) (h1 : k < s) (h : H) : C 108 [cfgV s a c hd g st, .agg [.str ⟨⟨[104, 101, 97, 100, 101, 114]⟩⟩, .int .i64 k, .int .i64 0]] h = some (.int .i64 (withinT s a c hd g st k 0), h) := by
  obtain ⟨⟨s1, s2⟩, ⟨a1, a2⟩, ⟨c1, c2⟩, ⟨d1, d2⟩, _⟩ := cfgR_iff.mp hr
  obtain ⟨k', rfl⟩ : ∃ n : Nat, k = n := ⟨k.toNat, by omega⟩
  obtain ⟨post, hw⟩ := words_split s.toNat (if a < 3 then 3 else a).toNat c.toNat hd.toNat k' (by omega)
  have hl := preE_length (if a < 3 then 3 else a).toNat c.toNat hd.toNat k'
  have hroom : ((if a < 3 then 3 else a).toNat : Int) = max a 3 := by split <;> omega
  have hroom2 : (if a < 3 then 3 else a).toNat ≤ 8 := by split <;> omega
  have b1 : c.toNat * hd.toNat ≤ 8 * 16 := Nat.mul_le_mul (by omega) (by omega)
  have b2 : k' * (2 + (if a < 3 then 3 else a).toNat) ≤ 64 * 12 := Nat.mul_le_mul (by omega) (by omega)
  have hspec := at_spec hr hw (pre_ne _ _ _ _) (by rw [hl]; clear hw; omega) h
  rw [hspec, hl]
  have he : ((4 + c.toNat + c.toNat * hd.toNat + c.toNat * 2 + k' * (2 + (if a < 3 then 3 else a).toNat) : Nat) : Int) = withinT s a c hd g st (k' : Int) 0 := by
    clear hspec hl hw
    have hi : (0 : Int) ≤ 0 ∧ (0 : Int) ≤ roomT a - 1 := by unfold roomT; omega
    have hk : (0 : Int) ≤ (k' : Int) ∧ (k' : Int) ≤ s - 1 := by omega
    generalize (if a < 3 then 3 else a).toNat = R at hroom b2 ⊢
    unfold withinT
    rw [if_pos ⟨hr, hk, hi⟩]
    unfold slotsT roomT
    have m1 : ((c.toNat * hd.toNat : Nat) : Int) = c * hd := by rw [Int.natCast_mul, Int.toNat_of_nonneg (by omega), Int.toNat_of_nonneg (by omega)]
    have m2 : ((k' * (2 + R) : Nat) : Int) = (k' : Int) * (2 + max a 3) := by
      rw [Int.natCast_mul]
      congr 1
      omega
    have m3 : c * (1 + hd + 2) = c + c * hd + c * 2 := by rw [Int.mul_add, Int.mul_add, Int.mul_one]
    rw [m3, ← m1, ← m2]
    generalize c.toNat * hd.toNat = P
    generalize k' * (2 + R) = Q
    omega
  rw [he]
end Wm
