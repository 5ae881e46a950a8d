/- What the functions come to, and the law: of my machine. -/
import Derived.Test.YthkimcdeejjmbaaWmOwnLinSearchesA
import Derived.Test.YthkimcdeejjmbaaWmTxtLinSearchesB
import Derived.Test.YthkimcdeejjmbaaWmFast
import Derived.Test.YthkimcdeejjmbaaWmTxtLinSearchesC
import Derived.Test.YthkimcdeejjmbaaWmEv
import Derived.Test.YthkimcdeejjmbaaWmOpen
import Derived.Test.YthkimcdeejjmbaaWmPOp0
import Derived.KernelRfl
import Derived.Test.YthkimcdeejjmbaaWmShal
import Derived.Test.YthkimcdeejjmbaaWmCore
set_option linter.all false
noncomputable section
namespace Wm
attribute [local congr] zl
attribute [local irreducible] wr
structure ErrOk (k : Cfg) (r : RSt) (w : Int) (c : CallR) : Prop where
  rng : 1 ≤ c.kind ∧ c.kind ≤ 10
  new : c.kind = 1 → 0 ≤ c.n ∧ c.n ≤ k.a ∧ (r.held w : Int) < k.hd
  node : 2 ≤ c.kind → c.kind ≤ 8 → 0 ≤ r.node w c.h
  fld : 2 ≤ c.kind → c.kind ≤ 5 → 0 ≤ c.n ∧ c.n < ((r.fl (r.node w c.h)).length : Int)
  x : c.kind = 3 ∨ c.kind = 7 → 0 ≤ r.node w c.x
  load : c.kind = 2 → 0 ≤ r.fat (r.node w c.h) c.n → (r.held w : Int) < k.hd
  op : c.kind = 8 → r.walk w = 0
  next : c.kind = 9 → r.come w ≠ [] ∧ (r.held w : Int) < k.hd
  tok : c.kind = 9 ∨ c.kind = 10 → r.walk w ≠ 0 ∧ r.walk w = c.h
theorem zo1 {k : Cfg} {r : RSt} {w : Int} {c : CallR} (h : errR k r w c = 0) : ErrOk k r w c := by
  rw [zmf] at h
  split at h
  · exact absurd h (by decide)
  rename_i hk
  have hk1 : 1 ≤ c.kind := by omega
  have hk2 : c.kind ≤ 10 := by omega
  split at h
  · rename_i k1
    split at h
    · exact absurd h (by decide)
    rename_i hn
    split at h
    · rename_i hr
      exact ⟨⟨hk1, hk2⟩, fun _ => ⟨by omega, by omega, hr⟩, fun q _ => by omega, fun q _ => by omega, fun q => by omega, fun q => by omega, fun q => by omega, fun q => by omega, fun q => by omega⟩
    · exact absurd h (by decide)
  rename_i k1
  split at h
  · rename_i k9
    unfold err6 at h
    split at h
    · exact absurd h (by decide)
    rename_i h6
    split at h
    · exact absurd h (by decide)
    rename_i h5
    refine ⟨⟨hk1, hk2⟩, fun q => absurd q k1, fun q _ => by omega, fun q _ => by omega, fun q => by omega, fun q => by omega, fun q => by omega, fun q => ⟨fun e => h6 (.inr (.inr ⟨q, by rw [e]; rfl⟩)), ?_⟩, fun _ => ⟨fun e => h6 (.inl e), ?_⟩⟩
    · exact Decidable.of_not_not fun e => h5 ⟨q, e⟩
    · exact Decidable.of_not_not fun e => h6 (.inr (.inl e))
  rename_i k9
  unfold err9 at h
  split at h
  · exact absurd h (by decide)
  rename_i h2
  unfold zbr at h
  split at h
  · exact absurd h (by decide)
  rename_i h3
  unfold zl1 at h
  split at h
  · exact absurd h (by decide)
  rename_i h5
  split at h
  · exact absurd h (by decide)
  rename_i h7
  refine ⟨⟨hk1, hk2⟩, fun q => absurd q k1, fun _ _ => ?_, fun q1 q2 => ?_, fun q => ?_, fun q1 q2 => ?_, fun q => ?_, fun q => absurd (.inl q) k9, fun q => absurd q k9⟩
  · exact Int.not_lt.mp fun e => h2 (.inl e)
  · refine ⟨Int.not_lt.mp fun e => h3 ⟨⟨q1, q2⟩, .inl e⟩, Int.not_le.mp fun e => h3 ⟨⟨q1, q2⟩, .inr e⟩⟩
  · exact Decidable.of_not_not fun e => h2 (.inr (.inl ⟨q, e⟩))
  · exact Decidable.of_not_not fun e => h5 ⟨q1, q2, e⟩
  · exact Decidable.of_not_not fun e => h7 ⟨q, e⟩
section
variable {g0 : Nat → Option Blk} {h : H} {k : Cfg} {s : StV} {r : RSt} {c : CallR} {a : AnsR} {g : H} {p q pa po pT n0 n1 n2 n3 n4 n5 : Nat} {t : StV}
theorem z074 (A : SwAt g0 h k s r c a g p q pa po pT n0 n1 n2 n3 n4 n5 t) (I : RIn k r) (B : r.small) (ka : k.a ≤ 100000) {w : Int} (w0 : 0 ≤ w) (w1 : w < k.c) (he : errR k r w c = 0) :
    Ev (S.zn W w (.ptr p 0) (.ptr q 0) (.ptr pa 0) (.ptr po 0) (r.node w c.h) (z1i r w c) (yesR r w c) (.ptr pT 0) g) (zef g0 h k (z09 r w c a) po pT) := by
  have E := zo1 he
  obtain ⟨j, hj, hW, hC⟩ := I.walkAt w0 w1
  have fld : 2 ≤ c.kind → c.kind ≤ 5 → ∃ (n i : Nat) (l : List Int), r.F[n]? = some l ∧ i < l.length ∧ r.node w c.h = (n : Int) ∧ c.n = (i : Int) := fun q1 q2 => by
    obtain ⟨n, hn, hF⟩ := I.flAt (E.node q1 (by omega))
    obtain ⟨h1, h2⟩ := E.fld q1 q2
    exact ⟨n, c.n.toNat, _, hF, by omega, hn, by omega⟩
  have hr := E.rng
  by_cases k1 : c.kind = 1
  · obtain ⟨h1, h2, _⟩ := E.new k1
    exact z05q A B k1 (n := c.n.toNat) (by omega) (by omega) _ _
  by_cases k2 : c.kind = 2
  · obtain ⟨n, i, l, e1, e2, e3, e4⟩ := fld (by omega) (by omega)
    exact z04x A B k2 e1 e2 e3 e4 _ _ rfl
  by_cases k3 : c.kind = 3
  · obtain ⟨n, i, l, e1, e2, e3, e4⟩ := fld (by omega) (by omega)
    exact zx2 A B.h e1 e2 e3 e4 _ _ (.inl k3)
  by_cases k4 : c.kind = 4
  · obtain ⟨n, i, l, e1, e2, e3, e4⟩ := fld (by omega) (by omega)
    exact z05n A k4 e1 e2 e3 e4 _ _
  by_cases k5 : c.kind = 5
  · obtain ⟨n, i, l, e1, e2, e3, e4⟩ := fld (by omega) (by omega)
    exact zx2 A B.h e1 e2 e3 e4 _ _ (.inr ⟨k5, rfl⟩)
  by_cases k6 : c.kind = 6
  · exact z04v A B k6 _ _
  by_cases k7 : c.kind = 7
  · exact z04f A k7 _ _
  by_cases k8 : c.kind = 8
  · obtain ⟨n, hn, hF⟩ := I.flAt (E.node (by omega) (by omega))
    exact z04q A I B k8 hj (z03 hW) (z03 hC) hn (z03 hF) _ _
  by_cases k9 : c.kind = 9
  · cases hc : r.come w with
    | nil => exact absurd hc (E.next k9).1
    | cons x xs => exact z053 A B k9 hj (hC.trans (by rw [hc])) _ _
  · exact z03g A (by omega) hj (z03 hW) (z03 hC) _ _
def Fin' (g0 : Nat → Option Blk) (h : H) (k : Cfg) (r' : RSt) (b : Bool) (z : V × H) : Prop := ∃ s', z.1 = .tup [s'.v k, .bool b] ∧ Fr [] h z.2 ∧ StAt (ug g0 h z.2) s' r'
structure DxAt (g0 : Nat → Option Blk) (h : H) (k : Cfg) (s : StV) (r : RSt) (c : CallR) (a : AnsR) (g : H) (p q pa po : Nat) : Prop where
  D : DoAt k s r c a g p q pa po
  hok : h.ok
  sb : Sub g0 h.get
  Z0 : StAt g0 s r
  F : Fr [] h g
  lo : h.next ≤ po ∧ po ≠ p ∧ po ≠ q ∧ po ≠ pa
theorem DxAt.fr (X : DxAt g0 h k s r c a g p q pa po) {g' : H} (F : Fr [] g g') : DxAt g0 h k s r c a g' p q pa po := ⟨X.D.fr F, X.hok, X.sb, X.Z0, X.F.trans' F, X.lo⟩
theorem zme {cs l : List V} (h : l.length = cs.length) (h1 : l.all V.one = true) : stB (some (.cells cs .rw)) 0 l = some (.cells l .rw) := by
  have hd : decide (Bk.rw = Bk.ro) = false := rfl
  have hl : decide (0 + l.length ≤ cs.length) = true := decide_eq_true (by omega)
  rw [z0e, hd, h1, hl]
  show some (Blk.cells (z02 cs 0 l) .rw) = _
  unfold z02
  rw [List.take_zero, List.nil_append, List.drop_of_length_le (by omega), List.append_nil]
theorem zne (k : Cfg) {g : Nat → Option Blk} {s : StV} {r : RSt} (Z : StAt g s r) : [V.int .i64 k.s, .int .i64 k.a, .int .i64 k.c, .int .i64 k.hd, .int .i64 k.g, .int .i64 k.st, s.f, s.h, s.w, s.c, s.g].all V.one = true := by
  simp only [List.all_cons, List.all_nil, Z.f.slv.one, Z.h.slv.one, Z.w.slv.one, Z.c.slv.one, Z.g.slv.one]; rfl
theorem DxAt.st (X : DxAt g0 h k s r c a g p q pa po) : stB (g.get po) 0 [V.int .i64 k.s, .int .i64 k.a, .int .i64 k.c, .int .i64 k.hd, .int .i64 k.g, .int .i64 k.st, s.f, s.h, s.w, s.c, s.g] = some (.cells [V.int .i64 k.s, .int .i64 k.a, .int .i64 k.c, .int .i64 k.hd, .int .i64 k.g, .int .i64 k.st, s.f, s.h, s.w, s.c, s.g] .rw) := by
  obtain ⟨cs, h1, h2⟩ := X.D.ou
  rw [h1]
  exact zme (by rw [h2]; rfl) (zne k X.Z0)
theorem DxAt.fin (X : DxAt g0 h k s r c a g p q pa po) (b : Bool) : Fin' g0 h k r b (.tup [.agg [V.int .i64 k.s, .int .i64 k.a, .int .i64 k.c, .int .i64 k.hd, .int .i64 k.g, .int .i64 k.st, s.f, s.h, s.w, s.c, s.g], .bool b], g.put po (some (.cells [V.int .i64 k.s, .int .i64 k.a, .int .i64 k.c, .int .i64 k.hd, .int .i64 k.g, .int .i64 k.st, s.f, s.h, s.w, s.c, s.g] .rw))) := by
  obtain ⟨cs, h1, _⟩ := X.D.ou
  exact ⟨s, rfl, X.F.put (.inr X.lo.1) (X.D.E.ok.lt h1) _, X.Z0.sub (zpn X.sb X.hok _)⟩
theorem z00s (A : SwAt g0 h k s r c a g p q pa po pT n0 n1 n2 n3 n4 n5 t) (I : RIn k r) (B : r.small) (ka : k.a ≤ 100000) {w : Int} (w0 : 0 ≤ w) (w1 : w < k.c) (he : errR k r w c = 0) :
    Ev ((S.z8w W (S.z8u (.int .i64 w) (.ptr p 0) (.ptr q 0) (.ptr pa 0) (.ptr po 0) (.int .i64 (r.node w c.h)) (.bool (z1i r w c)) (.bool (yesR r w c)) (.ptr pT 0)) g).bind fun z => S.zbb W z.1 z.2.1 z.2.2) (fun z => ∃ t', z.1 = .tup [t'.v k, .bool true] ∧ Fr [po] h z.2 ∧ StAt (ug g0 h z.2) t' (z09 r w c a)) := by
  rw [S.zii]
  refine Ev.bind (z074 A I B ka w0 w1 he) ?_
  rintro ⟨_, _, g'⟩ ⟨rfl, rfl, t', hcs, F', Z', cs, u1, u2⟩
  dsimp only at hcs F' Z' u1 ⊢
  rw [S.zha]
  have lo := A.lo
  have z1 := Z'.f.slv.one
  have z2 := Z'.h.slv.one
  have z3 := Z'.w.slv.one
  have z4 := Z'.c.slv.one
  have z5 := Z'.g.slv.one
  have lt := A.lt
  have npo : ¬ po = pT := by have := A.T.le; omega
  have hst : stB (g'.get po) 0 [V.int .i64 k.s, .int .i64 k.a, .int .i64 k.c, .int .i64 k.hd, .int .i64 k.g, .int .i64 k.st, t'.f, t'.h, t'.w, t'.c, t'.g] = some (.cells [V.int .i64 k.s, .int .i64 k.a, .int .i64 k.c, .int .i64 k.hd, .int .i64 k.g, .int .i64 k.st, t'.f, t'.h, t'.w, t'.c, t'.g] .rw) := by
    rw [u1]
    exact zme (by rw [u2]; rfl) (zne k Z')
  simp only [S.zde, z9, Option.map_some, zo, zy, get_put', zq, Nat.zero_add, Nat.reduceAdd, Nat.reduceLeDiff, z0o, List.length_cons, List.length_nil, Nat.beq_refl, decide_true, if_true, List.take_succ_cons, List.take_zero, List.drop_zero, finV, z2g, z3z, z2n, hcs, hst]
  have hlp : po < g'.next := F'.ok.lt u1
  refine Ev.some ⟨t', rfl, (F'.mono (by simp)).put (.inl (by simp)) hlp _, Z'.sub fun b x hb => ?_⟩
  unfold ug at hb ⊢
  split
  · rename_i hbl; rw [if_pos hbl] at hb; exact hb
  · rename_i hbl
    rw [if_neg hbl] at hb
    rw [zj (by omega)]; exact hb
end
end Wm
end
noncomputable section
namespace Wm
attribute [local irreducible] wr
structure RSz (k : Cfg) (n : Nat) (r : RSt) : Prop where
  f : r.F.length ≤ n
  l : ∀ l ∈ r.F, (l.length : Int) ≤ k.a
  h : r.Hs.length ≤ n
  g : r.Gv.length ≤ n
theorem RSz.small {k : Cfg} {n : Nat} {r : RSt} (Z : RSz k n r) (I : RIn k r) (hn : n ≤ 100000) (ka : k.a ≤ 100000) (kc : k.C ≤ 100000) : r.small :=
  ⟨by have := Z.f; omega, fun l hl => by have := Z.l l hl; omega, by have := Z.h; omega, by have := I.wk; omega, by have := I.cm; omega, by have := Z.g; omega⟩
theorem RSz.mono {k : Cfg} {n m : Nat} {r : RSt} (Z : RSz k n r) (h : n ≤ m) : RSz k m r := ⟨by have := Z.f; omega, Z.l, by have := Z.h; omega, by have := Z.g; omega⟩
theorem zvb {α : Type} {l : List α} {i : Nat} {f : α → α} {y : α} (h : y ∈ l.modify i f) : y ∈ l ∨ ∃ x ∈ l, y = f x := by
  obtain ⟨j, hj⟩ := List.mem_iff_getElem?.mp h
  rcases ztc hj with ⟨_, x, hx, rfl⟩ | ⟨_, hx⟩
  · exact .inr ⟨x, List.mem_of_getElem? hx, rfl⟩
  · exact .inl (List.mem_of_getElem? hx)
theorem zf0 {α : Type} {l : List α} {i : Nat} {x y : α} (h : y ∈ l.set i x) : y = x ∨ y ∈ l := by
  obtain ⟨j, hj⟩ := List.mem_iff_getElem?.mp h
  rcases zcu hj with ⟨_, rfl⟩ | ⟨_, hx⟩
  · exact .inl rfl
  · exact .inr (List.mem_of_getElem? hx)
theorem RIn.come_mem {k : Cfg} {r : RSt} (I : RIn k r) (w : Int) : ∀ n ∈ r.come w, 0 ≤ n ∧ n < r.F.length := by
  intro n hn
  unfold RSt.come at hn
  cases hc : r.Cm[w.toNat]? with
  | none => rw [hc] at hn; cases hn
  | some l => rw [hc] at hn; exact I.come l (List.mem_of_getElem? hc) n hn
theorem RIn.setF {k : Cfg} {r : RSt} (I : RIn k r) (n i v : Int) (h : -1 ≤ v ∧ v < r.F.length) : RIn k (r.setF n i v) := by
  have hl : (r.setF n i v).F.length = r.F.length := List.length_modify _ _ _
  refine ⟨I.wk, I.cm, fun l hl' x hx => ?_, fun x hx => ?_, I.nd, fun l hl' x hx => ?_, I.wu, I.gu⟩
  · rw [hl]
    rcases zvb hl' with q | ⟨m, q, rfl⟩
    · exact I.f l q x hx
    · rcases zf0 hx with rfl | hx
      · exact h
      · exact I.f m q x hx
  · rw [hl]; exact I.hs x hx
  · rw [hl]; exact I.come l hl' x hx
theorem RIn.gives {k : Cfg} {r : RSt} (I : RIn k r) {w q n : Int} (w0 : 0 ≤ w) (w1 : w < k.c) (hq : r.fresh q = true) (hu : U64 q) (hn : 0 ≤ n ∧ n < r.F.length) : RIn k (r.gives w q n) := by
  unfold RSt.fresh at hq
  simp only [Bool.and_eq_true, Bool.not_eq_true', decide_eq_false_iff_not, List.contains_eq_mem] at hq
  obtain ⟨hq1, hq0⟩ := hq
  refine ⟨I.wk, I.cm, I.f, fun x hx => ?_, ?_, I.come, I.wu, fun x hx => ?_⟩
  · rcases List.mem_append.mp hx with h | h
    · have := I.hs x h
      exact ⟨this.1, this.2.1, List.mem_append_left _ this.2.2.1, this.2.2.2⟩
    · simp only [List.mem_singleton] at h
      subst h
      exact ⟨⟨w0, w1⟩, hn, List.mem_append_right _ (by simp), hq0, hu⟩
  · show (r.Hs ++ [_]).Pairwise _
    rw [List.pairwise_append]
    refine ⟨I.nd, List.pairwise_singleton _ _, fun x hx y hy => ?_⟩
    simp only [List.mem_singleton] at hy
    subst hy
    rintro ⟨_, e⟩
    have hm := (I.hs x hx).2.2.1
    have e' : x.h = q := e
    rw [e'] at hm
    exact hq1 hm
  · rcases List.mem_append.mp hx with h | h
    · exact I.gu x h
    · simp only [List.mem_singleton] at h; subst h; exact hu
theorem RIn.newF {k : Cfg} {r : RSt} (I : RIn k r) (n : Nat) : RIn k { r with F := r.F ++ [List.replicate n (-1)] } := by
  have hl : (r.F ++ [List.replicate n (-1 : Int)]).length = r.F.length + 1 := by rw [List.length_append]; rfl
  refine ⟨I.wk, I.cm, fun l hl' x hx => ?_, fun x hx => ?_, I.nd, fun l hl' x hx => ?_, I.wu, I.gu⟩
  · show -1 ≤ x ∧ x < ((r.F ++ [List.replicate n (-1 : Int)]).length : Nat)
    rw [hl]
    rcases List.mem_append.mp hl' with q | q
    · have := I.f l q x hx; omega
    · simp only [List.mem_singleton] at q
      subst q
      have := (List.mem_replicate.mp hx).2
      omega
  · show _ ∧ (_ ∧ x.n < ((r.F ++ [List.replicate n (-1 : Int)]).length : Nat)) ∧ _
    rw [hl]
    have := I.hs x hx
    exact ⟨this.1, ⟨this.2.1.1, by omega⟩, this.2.2⟩
  · show _ ∧ x < ((r.F ++ [List.replicate n (-1 : Int)]).length : Nat)
    rw [hl]
    have := I.come l hl' x hx; omega
theorem z039 {k : Cfg} {r : RSt} {w : Int} {c : CallR} {a : AnsR} (h : okR k r w c a = true) (he : errR k r w c = 0) (ha : a.err = 0) : (z1i r w c = true → r.fresh a.h = true) ∧ a.yes = yesR r w c ∧ 0 ≤ w ∧ w < k.c := by
  unfold okR at h
  split at h
  · cases h
  rename_i hw
  rw [if_neg (by rw [he]; simp), if_neg (by omega)] at h
  simp only [Bool.and_eq_true, decide_eq_true_eq] at h
  refine ⟨fun hg => ?_, h.1.2, by omega, by omega⟩
  have := h.2
  rw [if_pos hg] at this
  exact this
theorem RIn.done {k : Cfg} {r : RSt} (I : RIn k r) {w : Int} {c : CallR} {a : AnsR} (h : okR k r w c a = true) (he : errR k r w c = 0) (ha : a.err = 0) (hu : U64 a.h) : RIn k (z09 r w c a) := by
  obtain ⟨hf, _, w0, w1⟩ := z039 h he ha
  have E := zo1 he
  have nodeB : ∀ q, -1 ≤ r.node w q ∧ r.node w q < r.F.length ∨ r.node w q = -1 := fun q => by
    rcases I.node w q with e | e
    · exact .inr e
    · exact .inl (by omega)
  have node' : ∀ q, 0 ≤ r.node w q → -1 ≤ r.node w q ∧ r.node w q < r.F.length := fun q hq => by
    rcases nodeB q with e | e
    · exact e
    · omega
  unfold z09
  split
  · rename_i k1
    exact (I.newF _).gives w0 w1 (hf (by unfold z1i; rw [decide_eq_true k1]; rfl)) hu ⟨by omega, by rw [List.length_append, List.length_singleton]; omega⟩
  split
  · rename_i k2
    split
    · rename_i hg
      refine I.gives w0 w1 (hf hg) hu ?_
      unfold z1i at hg
      rw [k2] at hg
      have hfat : 0 ≤ r.fat (r.node w c.h) c.n := by simpa using hg
      refine ⟨hfat, ?_⟩
      obtain ⟨h0, h1⟩ := E.fld (by omega) (by omega)
      obtain ⟨j, _, hj⟩ := RSt.fatAt h0 h1
      exact (I.fl_lt _ _ (List.mem_of_getElem? hj)).2
    · exact I
  split
  · rename_i k3
    exact I.setF _ _ _ (node' _ (E.x (.inl k3)))
  split
  · obtain ⟨n, hn, hF⟩ := I.flAt (E.node (by omega) (by omega))
    exact I.setF _ _ _ ⟨by omega, by have := z03 hF; omega⟩
  split
  · split
    · obtain ⟨n, hn, hF⟩ := I.flAt (E.node (by omega) (by omega))
      refine I.setF _ _ _ ?_
      rcases nodeB c.x with e | e
      · exact e
      · have := z03 hF; omega
    · exact I
  split
  · refine ⟨I.wk, I.cm, I.f, fun x hx => I.hs x (List.mem_filter.mp hx).1, I.nd.filter _, I.come, I.wu, I.gu⟩
  split
  · rename_i k8
    obtain ⟨n, hn, hF⟩ := I.flAt (E.node (by omega) (by omega))
    have hfr := hf (by unfold z1i; rw [k8]; simp)
    refine ⟨by rw [List.length_set]; exact I.wk, by rw [List.length_set]; exact I.cm, I.f, fun x hx => ?_, I.nd, fun l hl x hx => ?_, fun x hx => ?_, fun x hx => ?_⟩
    · have := I.hs x hx
      exact ⟨this.1, this.2.1, List.mem_append_left _ this.2.2.1, this.2.2.2⟩
    · rcases zf0 hl with rfl | hl
      · rw [hn] at hx
        obtain ⟨X, S⟩ := I.reached_all (z03 hF)
        have := S.all x hx
        exact ⟨this.1, this.2⟩
      · exact I.come l hl x hx
    · rcases zf0 hx with rfl | hx
      · exact hu
      · exact I.wu x hx
    · rcases List.mem_append.mp hx with h | h
      · exact I.gu x h
      · simp only [List.mem_singleton] at h; subst h; exact hu
  split
  · rename_i k9
    have hfr := hf (by unfold z1i; rw [k9]; simp)
    obtain ⟨hc, _⟩ := E.next k9
    have hcm := I.come_mem w
    cases hcc : r.come w with
    | nil => exact absurd hcc hc
    | cons x xs =>
      rw [hcc] at hcm
      have I1 := I.gives (n := x) w0 w1 hfr hu (hcm x List.mem_cons_self)
      refine ⟨I1.wk, by rw [List.length_set]; exact I.cm, I1.f, I1.hs, I1.nd, fun l hl y hy => ?_, I1.wu, I1.gu⟩
      rcases zf0 hl with rfl | hl
      · exact hcm y (List.mem_cons_of_mem _ hy)
      · exact I.come l hl y hy
  split
  · refine ⟨by rw [List.length_set]; exact I.wk, by rw [List.length_set]; exact I.cm, I.f, I.hs, I.nd, fun l hl y hy => ?_, fun x hx => ?_, I.gu⟩
    · rcases zf0 hl with rfl | hl
      · cases hy
      · exact I.come l hl y hy
    · rcases zf0 hx with rfl | hx
      · exact ⟨by decide, by decide⟩
      · exact I.wu x hx
  · exact I
theorem RIn.do {k : Cfg} {r : RSt} (I : RIn k r) (w : Int) (c : CallR) {a : AnsR} (hu : U64 a.h) : RIn k (doR k r w c a) := by
  unfold doR zds
  split
  · rename_i h
    simp only [Bool.and_eq_true, decide_eq_true_eq] at h
    exact I.done h.1.1 h.1.2 h.2 hu
  · exact I
theorem RSz.done {k : Cfg} {n : Nat} {r : RSt} (Z : RSz k n r) {w : Int} {c : CallR} {a : AnsR} (he : errR k r w c = 0) : RSz k (n + 1) (z09 r w c a) := by
  have E := zo1 he
  have Z1 := Z.mono (Nat.le_succ n)
  have gv : ∀ (r' : RSt) (q m : Int), r'.F = r.F → r'.Hs = r.Hs → r'.Gv = r.Gv → RSz k (n + 1) (r'.gives w q m) := fun r' q m h1 h2 h3 => by
    have := Z.h; have := Z.g; have := Z.f
    refine ⟨by rw [show (r'.gives w q m).F = r'.F from rfl, h1]; omega, by rw [show (r'.gives w q m).F = r'.F from rfl, h1]; exact Z.l, ?_, ?_⟩
    · rw [show (r'.gives w q m).Hs = r'.Hs ++ [⟨w, q, m⟩] from rfl, h2, List.length_append, List.length_singleton]; omega
    · rw [show (r'.gives w q m).Gv = r'.Gv ++ [q] from rfl, h3, List.length_append, List.length_singleton]; omega
  have st : ∀ (n' i v : Int), RSz k (n + 1) (r.setF n' i v) := fun n' i v => by
    refine ⟨by rw [show (r.setF n' i v).F = r.F.modify n'.toNat fun l => l.set i.toNat v from rfl, List.length_modify]; exact Z1.f, fun l hl => ?_, Z1.h, Z1.g⟩
    rcases zvb hl with q | ⟨m, q, rfl⟩
    · exact Z.l l q
    · rw [List.length_set]; exact Z.l m q
  unfold z09
  split
  · rename_i k1
    obtain ⟨h0, h1, _⟩ := E.new k1
    have := Z.h; have := Z.g; have := Z.f
    refine ⟨?_, fun l hl => ?_, ?_, ?_⟩
    · show (r.F ++ [_]).length ≤ _
      rw [List.length_append, List.length_singleton]; omega
    · have hl' : l ∈ r.F ++ [List.replicate c.n.toNat (-1)] := hl
      rcases List.mem_append.mp hl' with q | q
      · exact Z.l l q
      · simp only [List.mem_singleton] at q
        subst q
        rw [List.length_replicate]; omega
    · show (r.Hs ++ [_]).length ≤ _
      rw [List.length_append, List.length_singleton]; omega
    · show (r.Gv ++ [_]).length ≤ _
      rw [List.length_append, List.length_singleton]; omega
  split
  · split
    · exact gv r _ _ rfl rfl rfl
    · exact Z1
  split
  · exact st _ _ _
  split
  · exact st _ _ _
  split
  · split
    · exact st _ _ _
    · exact Z1
  split
  · exact ⟨Z1.f, Z1.l, Nat.le_trans (List.length_filter_le _ _) Z1.h, Z1.g⟩
  split
  · refine ⟨Z1.f, Z1.l, Z1.h, ?_⟩
    show (r.Gv ++ [_]).length ≤ _
    have := Z.g
    rw [List.length_append, List.length_singleton]; omega
  split
  · have := gv r a.h ((r.come w).headD 0) rfl rfl rfl
    exact ⟨this.f, this.l, this.h, this.g⟩
  split
  · exact ⟨Z1.f, Z1.l, Z1.h, Z1.g⟩
  · exact Z1
theorem RSz.do {k : Cfg} {n : Nat} {r : RSt} (Z : RSz k n r) (w : Int) (c : CallR) (a : AnsR) : RSz k (n + 1) (doR k r w c a) := by
  unfold doR zds
  split
  · rename_i h
    simp only [Bool.and_eq_true, decide_eq_true_eq] at h
    exact Z.done h.1.2
  · exact Z.mono (Nat.le_succ n)
end Wm
end
noncomputable section
namespace Wm
attribute [local congr] zl
attribute [local irreducible] wr
def z1v (l : List HoldR) (i : Nat) : List (V × V) := (l.filter fun x => decide (x.c = (i : Int))).map fun x => (.int .u64 x.h, .int .i64 x.n)
def z44 (l : List Int) : List (V × V) := l.map fun q => (.int .u64 q, .int .i64 1)
theorem z01t (l : List HoldR) (i : Nat) : (z1v l i).length = zqi l (i : Int) := by unfold z1v zqi; rw [List.length_map]
theorem zim (x : HoldR) (l : List HoldR) (i : Nat) : z1v (x :: l) i = if x.c = (i : Int) then (.int .u64 x.h, .int .i64 x.n) :: z1v l i else z1v l i := by
  unfold z1v
  rw [List.filter_cons]
  by_cases h : x.c = (i : Int)
  · rw [if_pos h, if_pos (by simp [h]), List.map_cons]
  · rw [if_neg h, if_neg (by simp [h])]
theorem zqh (a b : Int) : z50 .int (.int .u64 a) (.int .u64 b) = some (decide (a = b)) := by simp [z50]
theorem zkc : ∀ (l : List HoldR) (i : Nat) (q : Int), findKey .int (.int .u64 q) (z1v l i) = some ((l.find? fun x => x.is (i : Int) q).map fun x => .int .i64 x.n)
  | [], i, q => rfl
  | x :: l, i, q => by
    have ih := zkc l i q
    rw [zim, List.find?_cons]
    by_cases h : x.c = (i : Int)
    · rw [if_pos h]
      simp only [findKey, zqh]
      by_cases hq : q = x.h
      · have hx : x.is (i : Int) q = true := by unfold HoldR.is; simp [h, hq]
        rw [decide_eq_true hq, hx]; rfl
      · have hx : x.is (i : Int) q = false := by unfold HoldR.is; simp [h]; exact fun e => hq e.symm
        rw [decide_eq_false hq, hx]; exact ih
    · rw [if_neg h]
      have hx : x.is (i : Int) q = false := by unfold HoldR.is; simp [h]
      rw [hx]; exact ih
theorem zfl : ∀ (l : List Int) (q : Int), findKey .int (.int .u64 q) (z44 l) = some (if l.contains q then some (.int .i64 1) else none)
  | [], q => rfl
  | x :: l, q => by
    have ih := zfl l q
    unfold z44 at ih ⊢
    rw [List.map_cons, List.contains_cons]
    simp only [findKey, zqh]
    by_cases hq : q = x
    · rw [decide_eq_true hq]; subst hq; simp
    · rw [decide_eq_false hq]
      have : (q == x) = false := by simp [hq]
      rw [this, Bool.false_or]; exact ih
theorem zlw {k : V} (x : V) : ∀ {es : List (V × V)}, findKey .int k es = some none → zjj .int k x es = some (es ++ [(k, x)])
  | [], _ => rfl
  | (a, v) :: es, h => by
    simp only [findKey] at h
    simp only [zjj]
    cases he : z50 .int k a with
    | none => rw [he] at h; cases h
    | some b =>
      rw [he] at h
      cases b with
      | true => cases h
      | false => simp only at h ⊢; rw [zlw x h]; rfl
theorem zsy : ∀ (l : List HoldR) (i : Nat) (q : Int), l.Pairwise (fun x y => ¬ (x.c = y.c ∧ x.h = y.h)) → zjv .int (.int .u64 q) (z1v l i) = some (z1v (l.filter fun x => !(x.is (i : Int) q)) i)
  | [], i, q, _ => rfl
  | x :: l, i, q, hp => by
    rw [List.pairwise_cons] at hp
    have ih := zsy l i q hp.2
    rw [zim, List.filter_cons]
    by_cases h : x.c = (i : Int)
    · rw [if_pos h]
      simp only [zjv, zqh]
      by_cases hq : q = x.h
      · have hx : x.is (i : Int) q = true := by unfold HoldR.is; simp [h, hq]
        rw [decide_eq_true hq, hx]
        -- no other one has that key
        have hall : l.filter (fun y => !(y.is (i : Int) q)) = l := by
          rw [List.filter_eq_self]
          intro y hy
          have := hp.1 y hy
          cases hyi : y.is (i : Int) q with
          | false => rfl
          | true =>
            unfold HoldR.is at hyi
            simp only [Bool.and_eq_true, decide_eq_true_eq] at hyi
            exact absurd ⟨h.trans hyi.1.symm, hq ▸ hyi.2.symm⟩ this
        show some (z1v l i) = _
        rw [if_neg (by simp), hall]
      · have hx : x.is (i : Int) q = false := by unfold HoldR.is; simp [h]; exact fun e => hq e.symm
        rw [decide_eq_false hq, hx]
        simp only [ih]
        rw [if_pos (by simp), zim, if_pos h]
    · rw [if_neg h]
      have hx : x.is (i : Int) q = false := by unfold HoldR.is; simp [h]
      rw [hx, if_pos (by simp), zim, if_neg h]; exact ih
structure MdB where
  b : Nat
  xF : V
  vs : List V
  bs : List Nat
  bh : Nat
  ms : List Nat
  bw : Nat
  ns : List V
  gm : Nat
  kw : Bool
def MdB.kb (B : MdB) : Bk := match B.kw with | true => .rw | false => .gr 2
def MdB.cw (B : MdB) (n : Nat) : Cap := match B.kw with | true => .ex n | false => .op 2
theorem MdB.kb_ne (B : MdB) : B.kb ≠ .ro := by unfold MdB.kb; cases B.kw <;> simp
theorem MdB.kb_ro (B : MdB) : decide (B.kb = .ro) = false := decide_eq_false B.kb_ne
def MdB.l (B : MdB) : List Nat := B.b :: B.bh :: B.bw :: B.gm :: (B.ms ++ (B.xF.blk ++ B.bs))
def MdB.nb (B : MdB) : List Nat := (B.ns.map V.blk).flatten
def z1n : List Int → List V → List V
  | q :: l, v :: m => .int .u64 q :: v :: z1n l m
  | _, _ => []
structure MdAt (k : Cfg) (g : Nat → Option Blk) (B : MdB) (r : RSt) : Prop where
  nd : B.l.Nodup
  nn : ∀ a ∈ B.nb, a ∉ B.l
  own : g B.b = some (.cells [.int .i64 k.s, .int .i64 k.a, .int .i64 k.c, .int .i64 k.hd, .int .i64 k.g, .int .i64 k.st, B.xF, .sl B.bh 0 k.C (.op 1), .sl B.bw 0 k.C (B.cw k.C), .map B.gm] .rw)
  fo : Grown g B.xF 1 B.vs
  fl : B.vs.length = r.F.length ∧ B.bs.length = r.F.length
  fr : ∀ (i : Nat) (v : V) (b : Nat) (l : List Int), B.vs[i]? = some v → B.bs[i]? = some b → r.F[i]? = some l → ∃ c k, v = .sl b 0 l.length c ∧ g b = some (.cells (l.map (.int .i64)) k) ∧ k ≠ .ro ∧ (c = .op 1 ∨ ∃ n, c = .ex n ∧ l.length ≤ n)
  ho : g B.bh = some (.cells (B.ms.map .map) (.gr 1))
  hl : B.ms.length = k.C
  hm : ∀ (i m : Nat), B.ms[i]? = some m → g m = some (.map (z1v r.Hs i))
  wo : g B.bw = some (.cells (z1n r.Wk B.ns) B.kb)
  wl : r.Wk.length = k.C ∧ B.ns.length = k.C ∧ r.Cm.length = k.C
  wr : ∀ (i : Nat) (v : V) (l : List Int), B.ns[i]? = some v → r.Cm[i]? = some l → RowO .i64 g v l
  gv : g B.gm = some (.map (z44 r.Gv))
theorem zod : ∀ {l : List Int} {m : List V} {i : Nat} {q : Int} {v : V}, l[i]? = some q → m[i]? = some v → (z1n l m)[i * 2]? = some (.int .u64 q) ∧ (z1n l m)[i * 2 + 1]? = some v
  | [], _, i, _, _, h, _ => by simp at h
  | _ :: _, [], i, _, _, _, h => by simp at h
  | a :: l, b :: m, 0, q, v, h1, h2 => by
    simp only [List.getElem?_cons_zero, Option.some.injEq] at h1 h2
    subst h1; subst h2; exact ⟨rfl, rfl⟩
  | a :: l, b :: m, i + 1, q, v, h1, h2 => by
    have := zod (l := l) (m := m) (i := i) h1 h2
    rw [show (i + 1) * 2 = i * 2 + 1 + 1 from by omega]
    exact this
theorem zh5 : ∀ {l : List Int} {m : List V}, l.length = m.length → (z1n l m).length = l.length * 2
  | [], [], _ => rfl
  | a :: l, b :: m, h => by
    have := zh5 (l := l) (m := m) (by simpa using h)
    simp only [z1n, List.length_cons, this]; omega
  | [], _ :: _, h => by simp at h
  | _ :: _, [], h => by simp at h
theorem MdAt.rows {k : Cfg} {g : Nat → Option Blk} {B : MdB} {r : RSt} (M : MdAt k g B r) : RowsO .i64 g B.xF r.F :=
  M.fo.rowsO M.fl.1 fun i v l h1 h2 => by
    have h3 : i < B.bs.length := by have := z03 h2; have := M.fl.2; omega
    obtain ⟨c, kk, rfl, hb, hk, hc⟩ := M.fr i v _ l h1 (List.getElem?_eq_getElem h3) h2
    exact .inr ⟨_, 0, c, kk, _, rfl, hb, by rw [List.drop_zero, List.take_of_length_le (by rw [List.length_map]; omega)], by rw [List.length_map]; omega, hc⟩
theorem MdAt.fr' {k : Cfg} {g g' : H} {B : MdB} {r : RSt} {L : List Nat} (M : MdAt k g.get B r) (ok : g.ok) (F : Fr L g g') (h1 : ∀ b ∈ B.l, b ∉ L) (h2 : ∀ b ∈ B.nb, b ∉ L) : MdAt k g'.get B r := by
  have inl : ∀ {b : Nat} {x : Blk}, g.get b = some x → b ∈ B.l → g'.get b = some x := fun hb hm => F.get ok hb (h1 _ hm)
  refine ⟨M.nd, M.nn, inl M.own (by simp [MdB.l]), M.fo.congr fun b hb => F.same b (M.fo.lt ok b hb) (h1 b (by simp [MdB.l, hb])), M.fl, fun i v b l e1 e2 e3 => ?_, inl M.ho (by simp [MdB.l]), M.hl, fun i m hm => inl (M.hm i m hm) (by simp [MdB.l, List.mem_of_getElem? hm]), inl M.wo (by simp [MdB.l]), M.wl, fun i v l e1 e2 => ?_, inl M.gv (by simp [MdB.l])⟩
  · obtain ⟨c, kk, e, hb, r⟩ := M.fr i v b l e1 e2 e3
    exact ⟨c, kk, e, inl hb (by simp [MdB.l, List.mem_of_getElem? e2]), r⟩
  · have R := M.wr i v l e1 e2
    exact R.congr fun b hb => F.same b (R.lt ok b hb) (h2 b (by
      unfold MdB.nb
      exact List.mem_flatten.mpr ⟨v.blk, List.mem_map.mpr ⟨v, List.mem_of_getElem? e1, rfl⟩, hb⟩))
theorem MdAt.fr0 {k : Cfg} {g g' : H} {B : MdB} {r : RSt} (M : MdAt k g.get B r) (ok : g.ok) (F : Fr [] g g') : MdAt k g'.get B r := M.fr' ok F (by simp) (by simp)
section
variable {k : Cfg} {g : H} {B : MdB} {r : RSt}
theorem MdAt.l1 (M : MdAt k g.get B r) : ldB (g.get B.b) 1 = some (.int .i64 k.a) := by rw [M.own]; rfl
theorem MdAt.l2 (M : MdAt k g.get B r) : ldB (g.get B.b) 2 = some (.int .i64 k.c) := by rw [M.own]; rfl
theorem MdAt.l3 (M : MdAt k g.get B r) : ldB (g.get B.b) 3 = some (.int .i64 k.hd) := by rw [M.own]; rfl
theorem MdAt.l6 (M : MdAt k g.get B r) : ldB (g.get B.b) 6 = some B.xF := by
  rw [M.own, z6]; simp only [List.getElem?_cons_succ, List.getElem?_cons_zero, M.fo.slv.one]
theorem MdAt.l7 (M : MdAt k g.get B r) : ldB (g.get B.b) 7 = some (.sl B.bh 0 k.C (.op 1)) := by rw [M.own]; rfl
theorem MdAt.l8 (M : MdAt k g.get B r) : ldB (g.get B.b) 8 = some (.sl B.bw 0 k.C (B.cw k.C)) := by rw [M.own]; rfl
theorem MdAt.l9 (M : MdAt k g.get B r) : ldB (g.get B.b) 9 = some (.map B.gm) := by rw [M.own]; rfl
theorem MdAt.map (M : MdAt k g.get B r) {w : Int} (h0 : 0 ≤ w) (h1 : w < k.c) : ∃ (i m : Nat), w = (i : Int) ∧ B.ms[i]? = some m ∧ zd 1 (.sl B.bh 0 k.C (.op 1)) (.int .i64 w) = some (.ptr B.bh i) ∧ ldB (g.get B.bh) i = some (.map m) ∧ g.get m = some (.map (z1v r.Hs i)) := by
  have hC : (k.C : Int) = k.c := by unfold Cfg.C; omega
  have hl := M.hl
  obtain ⟨m, hm⟩ : ∃ m, B.ms[w.toNat]? = some m := ⟨_, List.getElem?_eq_getElem (by omega)⟩
  refine ⟨w.toNat, m, by omega, hm, ?_, ?_, M.hm _ _ hm⟩
  · have := z28 (b := B.bh) (n := k.C) (i := w.toNat) (c := .op 1) (by omega)
    rw [show ((w.toNat : Nat) : Int) = w from by omega] at this
    exact this
  · rw [M.ho, z6, List.getElem?_map, hm]; rfl
theorem MdAt.walk (M : MdAt k g.get B r) {w : Int} (h0 : 0 ≤ w) (h1 : w < k.c) : ∃ (i : Nat) (v : V), w = (i : Int) ∧ B.ns[i]? = some v ∧ r.Wk[i]? = some (r.walk w) ∧ r.Cm[i]? = some (r.come w) ∧ zd 2 (.sl B.bw 0 k.C (B.cw k.C)) (.int .i64 w) = some (.ptr B.bw (i * 2)) ∧ ldB (g.get B.bw) (i * 2) = some (.int .u64 (r.walk w)) ∧ ldB (g.get B.bw) (i * 2 + 1) = some v ∧ RowO .i64 g.get v (r.come w) := by
  have hC : (k.C : Int) = k.c := by unfold Cfg.C; omega
  obtain ⟨w1, w2, w3⟩ := M.wl
  obtain ⟨v, hv⟩ : ∃ v, B.ns[w.toNat]? = some v := ⟨_, List.getElem?_eq_getElem (by omega)⟩
  have hW : r.Wk[w.toNat]? = some (r.walk w) := by unfold RSt.walk; rw [List.getElem?_eq_getElem (by omega)]; rfl
  have hCm : r.Cm[w.toNat]? = some (r.come w) := by unfold RSt.come; rw [List.getElem?_eq_getElem (by omega)]; rfl
  obtain ⟨e1, e2⟩ := zod hW hv
  have R := M.wr _ v _ hv hCm
  refine ⟨w.toNat, v, by omega, hv, hW, hCm, ?_, ?_, ?_, R⟩
  · have := zt7 (b := B.bw) (n := k.C) (i := w.toNat) (e := 2) (c := B.cw k.C) (by omega)
    rw [show ((w.toNat : Nat) : Int) = w from by omega] at this
    exact this
  · rw [M.wo, z6, e1]; rfl
  · rw [M.wo, z6, e2]; simp only [R.slv.one]
theorem zk9 (M : MdAt k g.get B r) (w : Int) : C 279 [.ptr B.b 0, .int .i64 w] g = some (.bool (decide (0 ≤ w) && decide (w < k.c)), g) := by
  refine zeu (af := F.z37) (by kernel_rfl) rfl ?_
  rw [S.zph]
  have l2 := M.l2
  cases d0 : decide (0 ≤ w) with
  | true => simp only [S.z37, zi, z1j, z7, z9, z8, Nat.zero_add, Nat.add_zero, za, Bool.true_and, Bool.not_false, eqV, zi, eqV, z1j, d0, l2]
  | false => simp only [S.z37, z1j, z9, Bool.false_and, Bool.not_false, eqV, eqV, z1j, d0]
theorem zog (M : MdAt k g.get B r) (w : Int) : C 105 [.ptr B.b 0, .int .i64 w] g = some (.int .i64 (if 0 ≤ w ∧ w < k.c then (r.held w : Int) else 0), g) := by
  refine zeu (af := F.z45) (by kernel_rfl) rfl ?_
  rw [S.zs9]
  have hc := zk9 M w
  by_cases hw : 0 ≤ w ∧ w < k.c
  · rw [decide_eq_true hw.1, decide_eq_true hw.2] at hc
    rw [if_pos hw]
    obtain ⟨i, m, rfl, hm, i1, l1, e1⟩ := M.map hw.1 hw.2
    have l7 := M.l7
    have hes : g.entries (.map m) = some (z1v r.Hs i) := by simp only [H.entries, e1]
    have hl := z01t r.Hs i
    simp only [S.z45, zi, z7, z9, z8, Nat.zero_add, zw, Bool.not_true, Bool.and_self, zh, hc, l7, i1, l1, hes, hl]; rfl
  · have hcf : (decide (0 ≤ w) && decide (w < k.c)) = false := by
      rcases Classical.em (0 ≤ w) with h | h
      · rw [decide_eq_false (fun q => hw ⟨h, q⟩), Bool.and_false]
      · rw [decide_eq_false h, Bool.false_and]
    rw [hcf] at hc
    rw [if_neg hw]
    simp only [S.z45, zi, z7, z9, z8, Nat.zero_add, zw, Bool.not_false, zh, hc]
theorem zax (M : MdAt k g.get B r) (w q : Int) : C 106 [.ptr B.b 0, .int .i64 w, .int .u64 q] g = some (.int .i64 (if 0 ≤ w ∧ w < k.c then r.node w q else -1), g) := by
  refine zeu (af := F.z3a) (by kernel_rfl) rfl ?_
  rw [S.zsc]
  have hc := zk9 M w
  by_cases hw : 0 ≤ w ∧ w < k.c
  · rw [decide_eq_true hw.1, decide_eq_true hw.2] at hc
    rw [if_pos hw]
    obtain ⟨i, m, rfl, hm, i1, l1, e1⟩ := M.map hw.1 hw.2
    have l7 := M.l7
    have hlk : g.look .int (.int .i64 0) true (.map m) (.int .u64 q) = some (match (r.Hs.find? fun x => x.is (i : Int) q) with | some x => .tup [.int .i64 x.n, .bool true] | none => .tup [.int .i64 0, .bool false]) := by
      simp only [H.look, zm8, H.entries, e1, zkc]
      cases (r.Hs.find? fun x => x.is (i : Int) q) <;> rfl
    have hn : r.node (i : Int) q = match (r.Hs.find? fun x => x.is (i : Int) q) with | some x => x.n | none => -1 := rfl
    rw [hn]
    cases hf : (r.Hs.find? fun x => x.is (i : Int) q) with
    | some x => rw [hf] at hlk; simp only [S.z3a, zi, z7, z9, z8, List.getElem?_cons_zero, List.getElem?_cons_succ, Nat.zero_add, Int.reduceNeg, zw, Bool.and_self, zh, hc, l7, i1, l1, hlk]
    | none => rw [hf] at hlk; simp only [S.z3a, zi, z7, z9, z8, List.getElem?_cons_zero, List.getElem?_cons_succ, Nat.zero_add, Int.reduceNeg, zw, Bool.and_self, zh, hc, l7, i1, l1, hlk]
  · have hcf : (decide (0 ≤ w) && decide (w < k.c)) = false := by
      rcases Classical.em (0 ≤ w) with h | h
      · rw [decide_eq_false (fun q => hw ⟨h, q⟩), Bool.and_false]
      · rw [decide_eq_false h, Bool.false_and]
    rw [hcf] at hc
    rw [if_neg hw]
    simp only [S.z3a, zi, z7, z9, z8, Nat.zero_add, Int.reduceNeg, zw, zh, hc]
def RSt.field (r : RSt) (n i : Int) : Int := if 0 ≤ n ∧ n < r.F.length ∧ 0 ≤ i ∧ i < (r.fl n).length then r.fat n i else -1
theorem zyf (M : MdAt k g.get B r) (n i : Int) : C 116 [.ptr B.b 0, .int .i64 n, .int .i64 i] g = some (.int .i64 (r.field n i), g) := by
  refine zeu (af := F.z1w) (by kernel_rfl) rfl ?_
  rw [S.zq3]
  have l6 := M.l6
  have hlen := M.rows.len
  unfold RSt.field
  by_cases h0 : n < 0
  · have d0 : decide (n < 0) = true := decide_eq_true h0
    rw [if_neg (by omega)]
    simp only [S.z1w, z1j, z9, Int.reduceNeg, eqV, eqV, z1j, d0]
  have d0 : decide (n < 0) = false := decide_eq_false h0
  by_cases h1 : (r.F.length : Int) ≤ n
  · have d1 : decide ((r.F.length : Int) ≤ n) = true := decide_eq_true h1
    rw [if_neg (by omega)]
    simp only [S.z1w, zi, z1j, z7, z9, z8, Nat.zero_add, Int.reduceNeg, eqV, zi, eqV, z1j, d0, l6, hlen, d1]
  have d1 : decide ((r.F.length : Int) ≤ n) = false := decide_eq_false h1
  by_cases h2 : i < 0
  · have d2 : decide (i < 0) = true := decide_eq_true h2
    rw [if_neg (by omega)]
    simp only [S.z1w, zi, z1j, z7, z9, z8, Nat.zero_add, Int.reduceNeg, eqV, zi, eqV, z1j, d0, l6, hlen, d1, d2]
  have d2 : decide (i < 0) = false := decide_eq_false h2
  obtain ⟨q, rfl⟩ : ∃ q : Nat, n = (q : Int) := ⟨n.toNat, by omega⟩
  have hF : r.F[q]? = some (r.fl (q : Int)) := by
    unfold RSt.fl
    rw [Int.toNat_natCast, List.getElem?_eq_getElem (by omega)]; rfl
  obtain ⟨b, y, ix, ly, Y⟩ := M.rows.at hF
  have hyl := Y.len
  by_cases h3 : ((r.fl (q : Int)).length : Int) ≤ i
  · have d3 : decide (((r.fl (q : Int)).length : Int) ≤ i) = true := decide_eq_true h3
    rw [if_neg (by omega)]
    simp only [S.z1w, zi, z1j, z7, z9, z8, Nat.zero_add, Int.reduceNeg, eqV, zi, eqV, z1j, d0, l6, hlen, d1, d2, ix, ly, hyl, d3]
  · have d3 : decide (((r.fl (q : Int)).length : Int) ≤ i) = false := decide_eq_false h3
    obtain ⟨j, ej, hj⟩ := RSt.fatAt (r := r) (n := (q : Int)) (i := i) (by omega) (by omega)
    obtain ⟨b3, o3, i3, l3⟩ := Y.at hj
    rw [← ej] at i3
    rw [if_pos ⟨by omega, by omega, by omega, by omega⟩]
    simp only [S.z1w, zi, z1j, z7, z9, z8, Nat.zero_add, Int.reduceNeg, eqV, zi, eqV, z1j, d0, l6, hlen, d1, d2, ix, ly, hyl, d3, i3, l3]
theorem zz0 (M : MdAt k g.get B r) (q : Int) : C 383 [.ptr B.b 0, .int .u64 q] g = some (.bool (r.fresh q), g) := by
  refine zeu (af := F.z2y) (by kernel_rfl) rfl ?_
  rw [S.zqx]
  have l9 := M.l9
  have hlk : g.look .int (.int .i64 0) false (.map B.gm) (.int .u64 q) = some (.int .i64 (if r.Gv.contains q then 1 else 0)) := by
    simp only [H.look, zm8, H.entries, M.gv, zfl]
    cases r.Gv.contains q <;> rfl
  unfold RSt.fresh
  cases d0 : decide (q = 0) with
  | true => simp only [S.z2y, Bool.and_false, Bool.not_true, d0]
  | false =>
    cases hc : r.Gv.contains q with
    | true =>
      rw [hc] at hlk
      simp only [S.z2y, zi, z7, z9, z8, Nat.zero_add, Int.reduceEq, za, Bool.and_true, Bool.not_true, Bool.not_false, decide_false, if_true, zi, d0, l9, hlk]
    | false =>
      rw [hc] at hlk
      simp only [S.z2y, zi, z7, z9, z8, Nat.zero_add, za, Bool.not_false, Bool.and_self, decide_true, if_false, reduceCtorEq, zi, d0, l9, hlk]
end
theorem zuv {prog : Nat → Option AFunc} {meth : Nat → Nat → Option Nat} {r n f : Nat} {af : AFunc} (hf : prog f = some af) (hc : af.closed = true) {args : List V} {v : V} (ha : V.flats args = true) (hr : run prog meth r n f args .empty = some (v, .empty)) (h : H) : callW prog meth f args h = some (v, h) := by
  cases n with
  | zero => simp [run] at hr
  | succ n =>
    refine zx4 (r := r) (n := n + 1) ?_
    simp only [run, hf] at hr ⊢
    unfold z9v at hr ⊢
    simp only [hc, ha] at hr ⊢
    simp only [Option.bind_eq_some_iff] at hr ⊢
    obtain ⟨p, hp, hr⟩ := hr
    refine ⟨p, hp, ?_⟩
    split at hr
    · cases hr; rfl
    · cases hr
theorem zf7 (n : Int) (hr : runF prog meth 100 100 445 [.int .u64 1, .int .u64 n] .empty = some (.tup [.int .u64 0, .int .u64 n], .empty)) (h : H) : C 445 [.int .u64 1, .int .u64 n] h = some (.tup [.int .u64 0, .int .u64 n], h) :=
  zuv (af := F.zfk) (by kernel_rfl) rfl rfl (by rw [← zwd]; exact hr) h
set_option maxRecDepth 100000 in
theorem z046 {n : Nat} (hn : n ≤ 8) (h : H) : C 445 [.int .u64 1, .int .u64 (n : Int)] h = some (.tup [.int .u64 0, .int .u64 (n : Int)], h) := by
  match n, hn with
  | 0, _ => exact zf7 0 (by kernel_rfl) h
  | 1, _ => exact zf7 1 (by kernel_rfl) h
  | 2, _ => exact zf7 2 (by kernel_rfl) h
  | 3, _ => exact zf7 3 (by kernel_rfl) h
  | 4, _ => exact zf7 4 (by kernel_rfl) h
  | 5, _ => exact zf7 5 (by kernel_rfl) h
  | 6, _ => exact zf7 6 (by kernel_rfl) h
  | 7, _ => exact zf7 7 (by kernel_rfl) h
  | 8, _ => exact zf7 8 (by kernel_rfl) h
  | n + 9, h => omega
theorem z02v {m n c : Nat} (h : m ≤ n) (hc : c ≤ m) : ((z3f m n).map (V.int .i64)).take c = (List.replicate c (-1)).map (.int .i64) := by
  unfold z3f
  rw [List.map_append, List.take_append_of_le_length (by rw [List.length_map, List.length_replicate]; exact hc), ← List.map_take, List.take_replicate, Nat.min_eq_left hc]
theorem zsx {m n c : Nat} (h : m + c ≤ n) : z02 ((z3f m n).map (V.int .i64)) m ((List.replicate c (-1)).map (.int .i64)) = (z3f (m + c) n).map (.int .i64) := by
  unfold z02
  rw [List.length_map, List.length_replicate, ← List.map_take, ← List.map_drop, ← List.map_append, ← List.map_append]
  congr 1
  unfold z3f
  rw [List.take_append_of_le_length (by rw [List.length_replicate]; omega), List.take_of_length_le (by rw [List.length_replicate]; omega), List.drop_append, List.length_replicate, List.drop_of_length_le (by rw [List.length_replicate]; omega), List.nil_append, List.drop_replicate, List.append_assoc, ← List.append_assoc, List.replicate_append_replicate]
  congr 2
  omega
theorem z052 {h : H} {p m n c : Nat} (hb : h.get p = some (.cells ((z3f m n).map (.int .i64)) .rw)) (hmn : m ≤ n) (hc : c = min m (n - m)) (h0 : 0 < c) :
    h.copy 1 (.sl p m (n - m) (.ex (n - m))) (.sl p 0 m (.ex n)) = some (.int .i64 (c : Nat), h.put p (some (.cells ((z3f (m + c) n).map (.int .i64)) .rw))) := by
  have hbeq : Nat.beq c 0 = false := by
    cases hq : Nat.beq c 0 with
    | false => rfl
    | true => have := Nat.eq_of_beq_eq_true hq; omega
  have hl : h.ldc p 0 (c * 1) = some ((List.replicate c (-1)).map (.int .i64)) := by
    rw [ztx hb (by rw [List.length_map, zo8 hmn]; omega), List.drop_zero, Nat.mul_one, z02v hmn (by omega)]
  have hs : h.stc p m ((List.replicate c (-1)).map (.int .i64)) = some (h.put p (some (.cells ((z3f (m + c) n).map (.int .i64)) .rw))) := by
    rw [zpo hb (by simp) (zn3 _ _) (by rw [List.length_map, List.length_replicate, List.length_map, zo8 hmn]; omega), zsx (by omega)]
  unfold H.copy
  simp only [z47, ← hc, hbeq, hl, hs]
theorem z00o {h : H} (ok : h.ok) {p n : Nat} (hp : h.get p = some (.cells [.int .i64 (-1)] .rw)) (hn : n ≤ 8) :
    Ev (C 384 [.sl p 0 1 (.ex 1), .int .i64 (n : Int)] h) fun z => Fr [] h z.2 ∧ z.1 = .sl h.next 0 n (.ex n) ∧ z.2.get h.next = some (.cells ((List.replicate n (-1)).map (.int .i64)) .rw) := by
  refine z1y (af := F.z0r) (by kernel_rfl) rfl ?_
  rw [S.zjc]
  have d0 : decide ((n : Int) < 0) = false := decide_eq_false (by omega)
  have w1 : wr .u64 ((1 : Nat) : Int) = 1 := by rw [z067 (by omega) (by omega)]; rfl
  have w2 : wr .u64 (n : Int) = (n : Int) := z067 (by omega) (by omega)
  have w3 : wr .i64 (n : Int) = (n : Int) := wr64 (by omega) (by omega)
  have hmul := z046 hn h
  have d1 : decide ((0 : Int) < 0) = false := rfl
  have d2 : decide ((9223372036854775807 : Int) < (n : Int)) = false := decide_eq_false (by omega)
  have hmk := zgc (h := h) (e := 1) (b := 8) (z := [V.int .i64 0]) (l := (n : Int)) (c := (n : Int)) (Int.natCast_nonneg n) (Int.le_refl _) (by omega) (by omega) rfl (by decide)
  rw [Int.toNat_natCast, zxi] at hmk
  have F1 : Fr [] h (h.new (.cells ((z3f 0 n).map (.int .i64)) .rw)) := (Fr.refl ok).new _
  have hb := ze h (.cells ((z3f 0 n).map (.int .i64)) .rw)
  have hp1 := F1.get ok hp (by simp)
  have hpn : p < h.next := ok.lt hp
  -- the first copy
  have hc1 : ∃ m, m ≤ n ∧ (n ≠ 0 → 1 ≤ m) ∧ ∃ g1, (h.new (.cells ((z3f 0 n).map (.int .i64)) .rw)).copy 1 (.sl h.next 0 n (.ex n)) (.sl p 0 1 (.ex 1)) = some (.int .i64 (m : Nat), g1) ∧ Fr [] h g1 ∧ g1.get h.next = some (.cells ((z3f m n).map (.int .i64)) .rw) := by
    by_cases h0 : n = 0
    · subst h0
      exact ⟨0, Nat.le_refl _, fun q => absurd rfl q, _, rfl, F1, hb⟩
    · refine ⟨1, by omega, fun _ => Nat.le_refl _, (h.new (.cells ((z3f 0 n).map (.int .i64)) .rw)).put h.next (some (.cells ((z3f 1 n).map (.int .i64)) .rw)), ?_, F1.put (.inr (Nat.le_refl _)) (Nat.lt_succ_self _) _, zs _ _ _⟩
      have hm : min 1 n = 1 := by omega
      have hl : (h.new (.cells ((z3f 0 n).map (.int .i64)) .rw)).ldc p 0 (1 * 1) = some [.int .i64 (-1)] := by rw [ztx hp1 (by simp)]; rfl
      have hs : (h.new (.cells ((z3f 0 n).map (.int .i64)) .rw)).stc h.next 0 [.int .i64 (-1)] = some ((h.new (.cells ((z3f 0 n).map (.int .i64)) .rw)).put h.next (some (.cells ((z3f 1 n).map (.int .i64)) .rw))) := by
        rw [zpo hb (by simp) rfl (by rw [List.length_map, zo8 (Nat.zero_le n)]; simp; omega)]
        have := zsx (m := 0) (n := n) (c := 1) (by omega)
        rw [Nat.zero_add] at this
        rw [← this]; rfl
      have hbz : Nat.beq 1 0 = false := rfl
      unfold H.copy
      simp only [z47, hm, hbz, hl, hs]
  obtain ⟨m, hm, hm1, g1, e1, Fg1, hg1⟩ := hc1
  simp only [S.z0r, z47, z9, List.getElem?_cons_zero, List.getElem?_cons_succ, Int.reduceLT, Int.reduceNeg, za, z64, decide_false, zh, d0, w1, w2, w3, hmul, d2, hmk, e1]
  refine z32 (α := Nat) (fun i => S.z4t (.sl h.next 0 n (.ex n)) (.int .i64 (i : Nat)))
    (fun i g => i ≤ n ∧ (n ≠ 0 → 1 ≤ i) ∧ Fr [] h g ∧ g.get h.next = some (.cells ((z3f i n).map (.int .i64)) .rw)) (fun i _ => n - i)
    (fun z => z.1 = .exit 0 ∧ z.2.1 = S.z7v (.sl h.next 0 n (.ex n)) ∧ Fr [] h z.2.2 ∧ z.2.2.get h.next = some (.cells ((z3f n n).map (.int .i64)) .rw)) m rfl ⟨hm, hm1, Fg1, hg1⟩ ?_ ?_
  rotate_left
  · rintro ⟨_, _, g⟩ ⟨rfl, rfl, F, hg⟩
    show Ev (S.z99 W (.exit 0) _ _) _
    rw [S.zfc]
    rw [zwy] at hg
    exact Ev.some ⟨F, rfl, hg⟩
  rintro i g ⟨hi, hi1, F, hg⟩
  rw [S.zgs]
  by_cases hin : i < n
  · have d : decide ((i : Int) < (n : Int)) = true := zca hin
    have b1 : z1c 0 n (some (.int .i64 (i : Int))) = some i := by
      have q1 : decide ((0 : Int) ≤ (i : Int)) = true := decide_eq_true (by omega)
      have q2 : decide ((i : Int) ≤ ((n : Nat) : Int)) = true := decide_eq_true (by omega)
      show (match decide ((0 : Int) ≤ (i : Int)) && decide ((i : Int) ≤ ((n : Nat) : Int)) with | true => _ | false => _) = _
      rw [q1, q2]; simp
    have b2 : z1c n n (some (.int .i64 (i : Int))) = some i := b1
    have b3 : z1c n n none = some n := rfl
    have b4 : z1c 0 i none = some 0 := rfl
    have hz : Nat.beq n i = false := by
      cases hq : Nat.beq n i with
      | false => rfl
      | true => have := Nat.eq_of_beq_eq_true hq; omega
    have s1 : z4f 1 (.sl h.next 0 n (.ex n)) (some (.int .i64 (i : Int))) none none = some (.sl h.next i (n - i) (.ex (n - i))) := by
      simp only [z4f, b3, b1, hz, Nat.mul_one, Nat.zero_add]
    have s2 : z4f 1 (.sl h.next 0 n (.ex n)) none (some (.int .i64 (i : Int))) none = some (.sl h.next 0 i (.ex n)) := by
      simp only [z4f, b3, b2, b4, Nat.sub_zero]
      cases Nat.beq n 0 <;> rfl
    have h1i := hi1 (by omega)
    have hcp := z052 hg hi rfl (by omega)
    have wi : wr .i64 ((i : Int) + ((min i (n - i) : Nat) : Int)) = ((i + min i (n - i) : Nat) : Int) := by rw [wr64 (by omega) (by omega)]; rfl
    simp only [S.z7u, z47, z9, za, d, s1, s2, hcp, wi]
    exact Ev.some (.inl ⟨i + min i (n - i), rfl, rfl, ⟨by omega, fun _ => by omega, F.put (.inr (Nat.le_refl _)) (F.ok.lt hg) _, zs _ _ _⟩, by omega⟩)
  · have hie : i = n := by omega
    subst hie
    have d : decide ((i : Int) < (i : Int)) = false := decide_eq_false (Int.lt_irrefl _)
    simp only [S.z7u, z47, z9, d]
    exact Ev.some (.inr ⟨by simp, rfl, rfl, F, hg⟩)
theorem z02t {g : H} {x : V} {l : List Int} (R : RowO .i64 g.get x l) (hl : l.length ≤ 100000) (v : Int) : Ev (C 404 [x, .int .i64 v] g) fun z => z.2 = g ∧ ∃ n : Int, z.1 = .int .i64 n ∧ (0 ≤ n ↔ l.contains v = true) := by
  refine z1y (af := F.z0w) (by kernel_rfl) rfl ?_
  rw [S.zk1]
  have hlen := R.len
  simp only [S.z0w, z9, hlen]
  refine z32 (α := Nat) (fun i => S.z59 x (.int .i64 v) (.int .i64 (l.length : Nat)) (.int .i64 (i : Nat)))
    (fun i g' => i ≤ l.length ∧ g' = g ∧ (l.drop i).contains v = l.contains v) (fun i _ => l.length - i)
    (fun z => z.2.2 = g ∧ ((z.1 = .exit 0 ∧ z.2.1 = S.z2c .dead ∧ l.contains v = false) ∨ (∃ i : Nat, z.1 = .ret ∧ z.2.1 = S.z2c (.int .i64 (i : Nat)) ∧ l.contains v = true))) 0 rfl ⟨Nat.zero_le _, rfl, rfl⟩ ?_ ?_
  rotate_left
  · rintro ⟨_, _, g'⟩ ⟨rfl, ⟨rfl, rfl, hn⟩ | ⟨i, rfl, rfl, hn⟩⟩
    · show Ev (S.z48 W (.exit 0) _ _) _
      rw [S.zfr]
      exact Ev.some ⟨rfl, -1, rfl, by rw [hn]; simp⟩
    · show Ev (S.z48 W .ret _ _) _
      rw [S.zgg]
      exact Ev.some ⟨rfl, (i : Nat), rfl, by rw [hn]; simp⟩
  rintro i g' ⟨hi, rfl, hn⟩
  rw [S.zhj]
  by_cases hil : i < l.length
  rotate_left
  · have d : decide ((i : Int) < (l.length : Int)) = false := decide_eq_false (by omega)
    simp only [S.z5e, d]
    rw [List.drop_of_length_le (by omega)] at hn
    exact Ev.some (.inr ⟨by simp, rfl, .inl ⟨rfl, rfl, hn.symm⟩⟩)
  have d : decide ((i : Int) < (l.length : Int)) = true := zca hil
  obtain ⟨u, hu⟩ : ∃ u, l[i]? = some u := ⟨_, List.getElem?_eq_getElem hil⟩
  obtain ⟨b, o, ix, lv⟩ := R.at hu
  have hdrop : l.drop i = u :: l.drop (i + 1) := by
    rw [List.drop_eq_getElem_cons hil]
    rw [List.getElem?_eq_getElem hil] at hu
    rw [Option.some.inj hu]
  rw [hdrop, List.contains_cons] at hn
  have wi := zf6 (i := i) (by omega)
  by_cases he : v = u
  · have de : decide (v = u) = true := decide_eq_true he
    simp only [S.z5e, z9, z8, za, d, ix, lv, de]
    refine Ev.some (.inr ⟨by simp, rfl, .inr ⟨i, rfl, rfl, ?_⟩⟩)
    rw [← hn, he]; simp
  · have de : decide (v = u) = false := decide_eq_false he
    have hb : (v == u) = false := by simp [he]
    rw [hb, Bool.false_or] at hn
    simp only [S.z5e, z9, z8, za, d, ix, lv, de, wi]
    exact Ev.some (.inl ⟨i + 1, rfl, rfl, ⟨hil, rfl, hn⟩, Nat.sub_lt_sub_left hil (Nat.lt_succ_self i)⟩)
theorem zk8 {g : H} {x : V} {l : List Int} (R : RowO .i64 g.get x l) (hl : l.length ≤ 100000) (v : Int) : C 331 [x, .int .i64 v] g = some (.bool (l.contains v), g) := by
  obtain ⟨⟨_, g'⟩, e1, rfl, n, rfl, hn⟩ := z02t R hl v
  refine zeu (af := F.z1k) (by kernel_rfl) rfl ?_
  rw [S.zhk]
  have hb : decide (0 ≤ n) = l.contains v := by
    cases hc : l.contains v with
    | true => exact decide_eq_true (hn.mpr hc)
    | false => exact decide_eq_false fun q => by have := hn.mp q; rw [hc] at this; cases this
  simp only [S.z1k, z9, za, zh, e1, hb]
structure RcmAt (h1 g : H) (r : RSt) (x : V) (l : List Int) : Prop where
  fr : Fr [] h1 g
  q : LQ g.get x l
  xn : ∀ b ∈ x.blk, h1.next ≤ b
  sn : ∃ X, Seen r.F.length l X
section
variable {k : Cfg} {B : MdB} {r : RSt}
theorem zwa {h1 : H} (ok1 : h1.ok) (hB : r.F.length ≤ 100000) {x : V} {l : List Int} {g : H} (Z : RcmAt h1 g r x l) {y : V} {f : List Int} (Y : RowO .i64 h1.get y f) (hf : ∀ v ∈ f, -1 ≤ v ∧ v < r.F.length) (hfl : f.length ≤ 100000) (x0 : V) (kx : Nat) (hkx : kx ≤ 100000) :
    Ev ((W.loop (S.zb0 W) (S.z2l x0 x (.int .i64 (kx : Nat)) y (.int .i64 (f.length : Nat)) (.int .i64 0)) g).bind fun p7 => S.z8i W p7.1 p7.2.1 p7.2.2) fun z =>
      z.1 = .normal ∧ ∃ x', z.2.1 = S.z4v x0 x' (.int .i64 (kx + 1 : Nat)) ∧ RcmAt h1 z.2.2 r x' (r.nexts l f) := by
  refine z32 (α := Nat × V × List Int) (fun a => S.z2l x0 a.2.1 (.int .i64 (kx : Nat)) y (.int .i64 (f.length : Nat)) (.int .i64 (a.1 : Nat)))
    (fun a g => a.1 ≤ f.length ∧ RcmAt h1 g r a.2.1 a.2.2 ∧ r.nexts a.2.2 (f.drop a.1) = r.nexts l f) (fun a _ => f.length - a.1)
    (fun z => z.1 = .exit 2 ∧ ∃ x', z.2.1 = S.zbd x0 x' (.int .i64 (kx : Nat)) ∧ RcmAt h1 z.2.2 r x' (r.nexts l f)) (0, x, l) rfl ⟨Nat.zero_le _, Z, rfl⟩ ?_ ?_
  rotate_left
  · rintro ⟨_, _, g'⟩ ⟨rfl, x', rfl, Z'⟩
    show Ev (S.z8i W (.exit 2) _ _) _
    rw [S.zi2]
    have wk := zf6 (i := kx) hkx
    simp only [S.zek, wk]
    exact Ev.some ⟨rfl, x', rfl, Z'⟩
  rintro ⟨i, x, l2⟩ g ⟨hi, Z, hn⟩
  dsimp only at hi Z hn ⊢
  rw [S.zkt]
  by_cases hif : i < f.length
  rotate_left
  · have d : decide ((i : Int) < (f.length : Int)) = false := decide_eq_false (by omega)
    simp only [S.z53, d]
    rw [List.drop_of_length_le (by omega)] at hn
    have hn' : l2 = r.nexts l f := hn
    exact Ev.some (.inr ⟨by simp, rfl, x, rfl, hn' ▸ Z⟩)
  have d : decide ((i : Int) < (f.length : Int)) = true := zca hif
  obtain ⟨v, hv⟩ : ∃ v, f[i]? = some v := ⟨_, List.getElem?_eq_getElem hif⟩
  obtain ⟨b, o, ix, lv⟩ := (Y.sub ((Sub.refl _).fr0 ok1 Z.fr)).at hv
  have hdrop : f.drop i = v :: f.drop (i + 1) := by
    rw [List.drop_eq_getElem_cons hif]
    rw [List.getElem?_eq_getElem hif] at hv
    rw [Option.some.inj hv]
  rw [hdrop, zgp] at hn
  have wi := zf6 (i := i) (by omega)
  obtain ⟨v0, v1⟩ := hf v (List.mem_of_getElem? hv)
  obtain ⟨X, S0⟩ := Z.sn
  have hll := S0.len_le
  cases d0 : decide (0 ≤ v) with
  | false =>
    have hs : r.next l2 v = l2 := by unfold RSt.next; rw [d0]; rfl
    rw [hs] at hn
    simp only [S.z53, z9, z8, za, d, ix, lv, d0, wi]
    exact Ev.some (.inl ⟨(i + 1, x, l2), rfl, rfl, ⟨hif, Z, hn⟩, Nat.sub_lt_sub_left hif (Nat.lt_succ_self i)⟩)
  | true =>
    have hc := zk8 Z.q.row (by omega) v
    cases hcc : l2.contains v with
    | true =>
      rw [hcc] at hc
      have hs : r.next l2 v = l2 := by unfold RSt.next; rw [hcc]; simp
      rw [hs] at hn
      simp only [S.z53, z9, z8, Nat.zero_add, Nat.reduceLeDiff, za, zw, List.length_cons, List.length_nil, Nat.beq_refl, Bool.not_true, Bool.and_self, decide_true, z02, List.take_zero, List.drop_succ_cons, List.drop_zero, List.cons_append, List.nil_append, fill, repl, opd, z82, zh, d, ix, lv, d0, hc, wi]
      exact Ev.some (.inl ⟨(i + 1, x, l2), rfl, rfl, ⟨hif, Z, hn⟩, Nat.sub_lt_sub_left hif (Nat.lt_succ_self i)⟩)
    | false =>
      rw [hcc] at hc
      have hs : r.next l2 v = l2 ++ [v] := by unfold RSt.next; rw [hcc, d0]; rfl
      have S1 := S0.next (r := r) v1
      rw [hs] at hn S1
      obtain ⟨x', g', ea, F2, Q2, hx'⟩ := Z.q.push Z.fr.ok (by omega) v
      simp only [S.z53, z9, z8, Nat.zero_add, Nat.reduceLeDiff, za, zw, List.length_cons, List.length_nil, Nat.beq_refl, Bool.not_false, Bool.and_self, decide_true, z02, List.take_zero, List.drop_succ_cons, List.drop_zero, List.cons_append, List.nil_append, fill, repl, opd, z82, zh, d, ix, lv, d0, hc, ea, wi]
      exact Ev.some (.inl ⟨(i + 1, x', l2 ++ [v]), rfl, rfl, ⟨hif, ⟨Z.fr.trans F2 (fun b hb => .inr (Z.xn b hb)), Q2, fun b hb => Nat.le_trans Z.fr.le (hx' b hb), S1⟩, hn⟩, Nat.sub_lt_sub_left hif (Nat.lt_succ_self i)⟩)
theorem zwq {h : H} (ok : h.ok) (M : MdAt k h.get B r) (I : RIn k r) (hB : r.F.length ≤ 100000) (hA : ∀ l ∈ r.F, l.length ≤ 100000) {n : Nat} (hn : n < r.F.length) :
    Ev (C 386 [.ptr B.b 0, .int .i64 (n : Int)] h) fun z => Fr [] h z.2 ∧ RowO .i64 z.2.get z.1 (r.reached (n : Int)) ∧ (∀ b ∈ z.1.blk, h.next ≤ b) := by
  refine z1y (af := F.z12) (by kernel_rfl) rfl ?_
  rw [S.zov]
  simp only [S.z12]
  have F0 : Fr [] h (h.new (.cells [.int .i64 (n : Int)] .rw)) := (Fr.refl ok).new _
  have Q0 : LQ (h.new (.cells [.int .i64 (n : Int)] .rw)).get (.sl h.next 0 1 (.ex 1)) [(n : Int)] := ⟨h.next, .ex 1, .rw, rfl, ze _ _, .inl rfl⟩
  have R0 : RcmAt h (h.new (.cells [.int .i64 (n : Int)] .rw)) r (.sl h.next 0 1 (.ex 1)) [(n : Int)] := ⟨F0, Q0, by simp [V.blk], _, Seen.one hn⟩
  refine z32 (α := Nat × V × List Int) (fun a => S.z4v (.ptr B.b 0) a.2.1 (.int .i64 (a.1 : Nat)))
    (fun a g => a.1 ≤ a.2.2.length ∧ RcmAt h g r a.2.1 a.2.2 ∧ r.reach (r.F.length + 1 - a.1) a.1 a.2.2 = r.reached (n : Int)) (fun a _ => r.F.length + 1 - a.1)
    (fun z => z.1 = .exit 0 ∧ ∃ x', z.2.1 = S.zb6 x' ∧ Fr [] h z.2.2 ∧ LQ z.2.2.get x' (r.reached (n : Int)) ∧ ∀ b ∈ x'.blk, h.next ≤ b) (0, .sl h.next 0 1 (.ex 1), [(n : Int)]) rfl ⟨Nat.zero_le _, R0, rfl⟩ ?_ ?_
  rotate_left
  · rintro ⟨_, _, g'⟩ ⟨rfl, x', rfl, F', Q', hx'⟩
    show Ev (S.zc3 W (.exit 0) _ _) _
    rw [S.zi3]
    exact Ev.some ⟨F', Q'.row, hx'⟩
  rintro ⟨i, x, l⟩ g ⟨hi, R, hrc⟩
  dsimp only at hi R hrc ⊢
  rw [S.zlp]
  have hxl := R.q.row.len
  obtain ⟨X, S0⟩ := R.sn
  have hll := S0.len_le
  by_cases hil : i < l.length
  rotate_left
  · have d : decide ((i : Int) < (l.length : Int)) = false := decide_eq_false (by omega)
    rw [zxl _ _ _ _ (by omega)] at hrc
    simp only [S.zb4, z9, hxl, d]
    exact Ev.some (.inr ⟨by simp, rfl, x, rfl, R.fr, hrc ▸ R.q, R.xn⟩)
  have d : decide ((i : Int) < (l.length : Int)) = true := zca hil
  obtain ⟨v, hv⟩ : ∃ v, l[i]? = some v := ⟨_, List.getElem?_eq_getElem hil⟩
  obtain ⟨b, o, ix, lv⟩ := R.q.row.at hv
  obtain ⟨v0, v1⟩ := S0.all v (List.mem_of_getElem? hv)
  obtain ⟨q, rfl⟩ : ∃ q : Nat, v = (q : Int) := ⟨v.toNat, by omega⟩
  have hF : r.F[q]? = some (r.fl (q : Int)) := by
    unfold RSt.fl
    rw [Int.toNat_natCast, List.getElem?_eq_getElem (by omega)]; rfl
  have Mg := M.fr0 ok R.fr
  have hl6 := Mg.l6
  obtain ⟨b2, y, i3, ly, Y0⟩ := M.rows.at hF
  have ly' := ((Sub.refl _).fr0 ok R.fr).ldB ly
  have hyl := Y0.len
  simp only [S.zb4, zi, z7, z9, z8, Nat.zero_add, zi, hxl, d, ix, lv, hl6, i3, ly', hyl]
  refine (zwa ok hB R Y0 (I.fl_lt _) (hA _ (List.mem_of_getElem? hF)) _ i (by omega)).mono ?_
  rintro ⟨_, _, g'⟩ ⟨rfl, x', rfl, R'⟩
  refine .inl ⟨(i + 1, x', r.nexts l (r.fl (q : Int))), rfl, rfl, ⟨?_, R', ?_⟩, by dsimp only; omega⟩
  · have hmono : ∀ (xs l : List Int), l.length ≤ (r.nexts l xs).length := by
      intro xs
      induction xs with
      | nil => intro l; exact Nat.le_refl _
      | cons x xs ih =>
        intro l
        rw [zgp]
        refine Nat.le_trans ?_ (ih _)
        unfold RSt.next
        split
        · rw [List.length_append]; omega
        · exact Nat.le_refl _
    have := hmono (r.fl (q : Int)) l
    dsimp only; omega
  · rw [show r.F.length + 1 - i = (r.F.length + 1 - (i + 1)) + 1 from by omega, zvx _ _ _ _ hv] at hrc
    exact hrc
theorem MdAt.dist {g : Nat → Option Blk} (M : MdAt k g B r) : (B.b ∉ B.bh :: B.bw :: B.gm :: (B.ms ++ (B.xF.blk ++ B.bs))) ∧ (B.bh ∉ B.bw :: B.gm :: (B.ms ++ (B.xF.blk ++ B.bs))) ∧ (B.bw ∉ B.gm :: (B.ms ++ (B.xF.blk ++ B.bs))) ∧ (B.gm ∉ (B.ms ++ (B.xF.blk ++ B.bs))) ∧ B.ms.Nodup ∧ (B.xF.blk ++ B.bs).Nodup ∧ (∀ a ∈ B.ms, a ∉ B.xF.blk ++ B.bs) ∧ B.bs.Nodup ∧ (∀ a ∈ B.xF.blk, a ∉ B.bs) := by
  have nd := M.nd
  unfold MdB.l at nd
  rw [List.nodup_cons, List.nodup_cons, List.nodup_cons, List.nodup_cons, List.nodup_append] at nd
  obtain ⟨h1, h2, h3, h4, h5, h6, h7⟩ := nd
  have h6' := h6
  rw [List.nodup_append] at h6'
  exact ⟨h1, h2, h3, h4, h5, h6, fun a ha hb => h7 a ha a hb rfl, h6'.2.1, fun a ha hb => h6'.2.2 a ha a hb rfl⟩
theorem zp7 {g : H} (ok : g.ok) (M : MdAt k g.get B r) (I : RIn k r) {w q n : Int} (w0 : 0 ≤ w) (w1 : w < k.c) (hq : r.Gv.contains q = false) :
    ∃ g', C 385 [.ptr B.b 0, .int .i64 w, .int .u64 q, .int .i64 n] g = some (.tup [], g') ∧ Fr B.l g g' ∧ MdAt k g'.get B (r.gives w q n) ∧ g'.next = g.next := by
  obtain ⟨i, m, rfl, hm, i1, l1, e1⟩ := M.map w0 w1
  obtain ⟨d1, d2, d3, d4, d5, d6, d7, d8, d9⟩ := M.dist
  have hmm : m ∈ B.ms := List.mem_of_getElem? hm
  have l9 := M.l9
  have l7 := M.l7
  have hgm : B.gm ≠ m := fun e => d4 (List.mem_append_left _ (e ▸ hmm))
  have hs1 : g.mapSet .int (.map B.gm) (.int .u64 q) (.int .i64 1) = some (g.put B.gm (some (.map (z44 (r.Gv ++ [q]))))) := by
    simp only [H.mapSet, zm8, M.gv]
    rw [zlw (k := .int .u64 q) (.int .i64 1) (by rw [zfl, hq]; rfl)]
    unfold z44
    rw [List.map_append]; rfl
  have e1' : (g.put B.gm (some (.map (z44 (r.Gv ++ [q]))))).get m = some (.map (z1v r.Hs i)) := by rw [zj hgm.symm]; exact e1
  have hnone : (r.Hs.find? fun x => x.is (i : Int) q) = none := by
    rw [List.find?_eq_none]
    intro x hx hxi
    unfold HoldR.is at hxi
    simp only [Bool.and_eq_true, decide_eq_true_eq] at hxi
    have := (I.hs x hx).2.2.1
    rw [hxi.2] at this
    rw [List.contains_eq_mem] at hq
    simp [this] at hq
  have hs2 : (g.put B.gm (some (.map (z44 (r.Gv ++ [q]))))).mapSet .int (.map m) (.int .u64 q) (.int .i64 n) = some ((g.put B.gm (some (.map (z44 (r.Gv ++ [q]))))).put m (some (.map (z1v (r.Hs ++ [⟨(i : Int), q, n⟩]) i)))) := by
    simp only [H.mapSet, zm8, e1']
    rw [zlw (k := .int .u64 q) (.int .i64 n) (by rw [zkc, hnone]; rfl)]
    have : z1v (r.Hs ++ [⟨(i : Int), q, n⟩]) i = z1v r.Hs i ++ [(.int .u64 q, .int .i64 n)] := by
      unfold z1v
      rw [List.filter_append, List.map_append]
      simp
    rw [this]
  have nbg : B.b ≠ B.gm := fun e => d1 (by rw [e]; simp)
  have nhg : B.bh ≠ B.gm := fun e => d2 (by rw [e]; simp)
  have l72 : ldB ((g.put B.gm (some (.map (z44 (r.Gv ++ [q]))))).get B.b) 7 = some (.sl B.bh 0 k.C (.op 1)) := by rw [zj nbg]; exact l7
  have l12 : ldB ((g.put B.gm (some (.map (z44 (r.Gv ++ [q]))))).get B.bh) i = some (.map m) := by rw [zj nhg]; exact l1
  refine ⟨(g.put B.gm (some (.map (z44 (r.Gv ++ [q]))))).put m (some (.map (z1v (r.Hs ++ [⟨(i : Int), q, n⟩]) i))), ?_, ?_, ?_, rfl⟩
  · refine zeu (af := F.z56) (by kernel_rfl) rfl ?_
    rw [S.zrr]
    simp only [S.z56, zi, z9, z7, z8, Nat.zero_add, l9, hs1, l72, i1, l12, hs2]
  · exact ((Fr.refl ok).put (.inl (by simp [MdB.l])) (ok.lt M.gv) _).put (.inl (by simp [MdB.l, hmm])) (ok.lt e1) _
  · have same : ∀ b, b ≠ B.gm → b ≠ m → ((g.put B.gm (some (.map (z44 (r.Gv ++ [q]))))).put m (some (.map (z1v (r.Hs ++ [⟨(i : Int), q, n⟩]) i)))).get b = g.get b := fun b h1 h2 => by rw [zj h2, zj h1]
    have nbm : B.b ≠ m := fun e => d1 (by rw [e]; simp [hmm])
    have nhm : B.bh ≠ m := fun e => d2 (by rw [e]; simp [hmm])
    have nwm : B.bw ≠ m := fun e => d3 (by rw [e]; simp [hmm])
    have nwg : B.bw ≠ B.gm := fun e => d3 (by rw [e]; simp)
    refine ⟨M.nd, M.nn, by rw [same _ nbg nbm]; exact M.own, M.fo.congr fun b hb => same b (fun e => d4 (by rw [← e]; simp [hb])) (fun e => d7 m hmm (by rw [← e]; simp [hb])), M.fl, fun j v b l h1 h2 h3 => ?_, by rw [same _ nhg nhm]; exact M.ho, M.hl, fun j m' hm' => ?_, by rw [same _ nwg nwm]; exact M.wo, M.wl, fun j v l h1 h2 => ?_, ?_⟩
    · obtain ⟨c, kk, e, hb, rr⟩ := M.fr j v b l h1 h2 h3
      have hbm := List.mem_of_getElem? h2
      exact ⟨c, kk, e, by rw [same b (fun e => d4 (by rw [← e]; simp [hbm])) (fun e => d7 m hmm (by rw [← e]; simp [hbm]))]; exact hb, rr⟩
    · by_cases hji : j = i
      · subst hji
        rw [hm] at hm'
        cases hm'
        exact zs _ _ _
      · have hmm' : m' ∈ B.ms := List.mem_of_getElem? hm'
        have hne : m' ≠ m := by
          intro e
          subst e
          have h1 := z03 hm
          have h2 := z03 hm'
          rw [List.getElem?_eq_getElem h1] at hm
          rw [List.getElem?_eq_getElem h2] at hm'
          have := (List.getElem_inj (xs := B.ms) d5 (i := j) (j := i) (h₀ := h2) (h₁ := h1)).mp (by rw [Option.some.inj hm, Option.some.inj hm'])
          exact hji this
        rw [same m' (fun e => d4 (by rw [← e]; simp [hmm'])) hne, M.hm j m' hm']
        show some (Blk.map (z1v r.Hs j)) = some (.map (z1v (r.Hs ++ [⟨(i : Int), q, n⟩]) j))
        have : z1v (r.Hs ++ [⟨(i : Int), q, n⟩]) j = z1v r.Hs j := by
          unfold z1v
          rw [List.filter_append]
          have : [(⟨(i : Int), q, n⟩ : HoldR)].filter (fun x => decide (x.c = (j : Int))) = [] := by
            rw [List.filter_cons, if_neg (by simp; omega)]; rfl
          rw [this, List.append_nil]
        rw [this]
    · have R := M.wr j v l h1 h2
      refine R.congr fun b hb => ?_
      have hbn : b ∈ B.nb := by
        unfold MdB.nb
        exact List.mem_flatten.mpr ⟨v.blk, List.mem_map.mpr ⟨v, List.mem_of_getElem? h1, rfl⟩, hb⟩
      have := M.nn b hbn
      exact same b (fun e => this (by rw [e]; simp [MdB.l])) (fun e => this (by rw [e]; simp [MdB.l, hmm]))
    · rw [zj hgm, zs]; rfl
end
theorem z00p (n : Int) (h : H) : C 82 [.int .i64 n] h = some (.bool (decide (n = 9) || decide (n = 10)), h) := by
  refine zc2 (af := F.zfv) (by kernel_rfl) rfl (by rfl) (by rfl) h ?_
  rw [S.z02n]
  cases d9 : decide (n = 9) <;> cases d10 : decide (n = 10) <;> simp only [S.zfv, Bool.or_false, Bool.false_or, Bool.or_self, d9, d10] <;> exact Ev.some rfl
theorem zr6 (n : Int) (h : H) : C 83 [.int .i64 n] h = some (.bool (decide (3 ≤ n) && decide (n ≤ 5)), h) := by
  refine zc2 (af := F.zdc) (by kernel_rfl) rfl (by rfl) (by rfl) h ?_
  rw [S.zyl]
  cases d9 : decide (3 ≤ n) <;> cases d10 : decide (n ≤ 5) <;> simp only [S.zdc, Bool.and_true, Bool.and_false, Bool.and_self, d9, d10] <;> exact Ev.some rfl
structure AskAt (k : Cfg) (B : MdB) (r : RSt) (c : CallR) (g : H) (q : Nat) : Prop where
  ok : g.ok
  M : MdAt k g.get B r
  cl : g.get q = some (.cells [.int .i64 c.kind, .int .i64 c.n, .int .u64 c.h, .int .u64 c.x, .int .u64 c.y] .rw)
theorem AskAt.fr {k : Cfg} {B : MdB} {r : RSt} {c : CallR} {g g' : H} {q : Nat} (A : AskAt k B r c g q) (F : Fr [] g g') : AskAt k B r c g' q := ⟨F.ok, A.M.fr0 A.ok F, F.get A.ok A.cl (by simp)⟩
theorem AskAt.new {k : Cfg} {B : MdB} {r : RSt} {h : H} (ok : h.ok) (M : MdAt k h.get B r) (c : CallR) : AskAt k B r c (h.new (.cells [.int .i64 c.kind, .int .i64 c.n, .int .u64 c.h, .int .u64 c.x, .int .u64 c.y] .rw)) h.next :=
  ⟨ok.new _, M.fr0 ok ((Fr.refl ok).new _), ze _ _⟩
section
variable {k : Cfg} {B : MdB} {r : RSt} {c : CallR}
theorem zyd {h : H} (ok : h.ok) (M : MdAt k h.get B r) {w : Int} (w0 : 0 ≤ w) (w1 : w < k.c) :
    Ev (C 280 [.ptr B.b 0, .int .i64 w, .agg c.cs] h) fun z => z.1 = .int .i64 (if c.n < 0 ∨ k.a < c.n then 1 else if (r.held w : Int) < k.hd then 0 else 5) ∧ Fr [] h z.2 := by
  refine z1y (af := F.z1x) (by kernel_rfl) rfl ?_
  have hcs : V.agg c.cs = .agg [.int .i64 c.kind, .int .i64 c.n, .int .u64 c.h, .int .u64 c.x, .int .u64 c.y] := rfl
  rw [hcs, S.zqz]
  simp only [S.z1x]
  have A := AskAt.new ok M c
  have F0 : Fr [] h (h.new (.cells [.int .i64 c.kind, .int .i64 c.n, .int .u64 c.h, .int .u64 c.x, .int .u64 c.y] .rw)) := (Fr.refl ok).new _
  generalize (h.new (.cells [.int .i64 c.kind, .int .i64 c.n, .int .u64 c.h, .int .u64 c.x, .int .u64 c.y] .rw)) = g at A F0 ⊢
  generalize h.next = q at A ⊢
  have hcl := A.cl
  have l1 := A.M.l1
  have l3 := A.M.l3
  have hh := zog A.M w
  rw [if_pos ⟨w0, w1⟩] at hh
  by_cases n0 : c.n < 0
  · have dn : decide (c.n < 0) = true := decide_eq_true n0
    simp only [S.z7y, S.z6b, S.z6v, S.z66, zi, z7, z9, z8, z6, List.getElem?_cons_zero, List.getElem?_cons_succ, Nat.zero_add, Nat.add_zero, zf, za, hcl, dn]
    exact Ev.some ⟨by rw [if_pos (.inl n0)], F0⟩
  have dn : decide (c.n < 0) = false := decide_eq_false n0
  by_cases na : k.a < c.n
  · have da : decide (k.a < c.n) = true := decide_eq_true na
    simp only [S.z7y, S.z6b, S.z6v, S.z66, zi, z7, z9, z8, z6, List.getElem?_cons_zero, List.getElem?_cons_succ, Nat.zero_add, Nat.add_zero, zf, za, zi, hcl, l1, dn, da]
    exact Ev.some ⟨by rw [if_pos (.inr na)], F0⟩
  have da : decide (k.a < c.n) = false := decide_eq_false na
  rw [if_neg (fun q => q.elim n0 na)]
  by_cases rm : (r.held w : Int) < k.hd
  · have dr : decide (k.hd ≤ (r.held w : Int)) = false := decide_eq_false (by omega)
    simp only [S.z7y, S.z6b, S.z6v, S.z66, zi, z7, z9, z8, z6, List.getElem?_cons_zero, List.getElem?_cons_succ, Nat.zero_add, Nat.add_zero, zf, V.beq, z17, za, Bool.and_self, decide_true, zh, zi, hcl, l1, l3, hh, dn, da, dr]
    exact Ev.some ⟨by rw [if_pos rm], F0⟩
  · have dr : decide (k.hd ≤ (r.held w : Int)) = true := decide_eq_true (by omega)
    simp only [S.z7y, S.z6b, S.z6v, S.z66, zi, z7, z9, z8, z6, List.getElem?_cons_zero, List.getElem?_cons_succ, Nat.zero_add, Nat.add_zero, zf, V.beq, z17, za, Bool.and_self, decide_true, zh, zi, hcl, l1, l3, hh, dn, da, dr]
    exact Ev.some ⟨by rw [if_neg rm], F0⟩
theorem z00h {h : H} (ok : h.ok) (M : MdAt k h.get B r) {w : Int} (w0 : 0 ≤ w) (w1 : w < k.c) (hk : c.kind = 9 ∨ c.kind = 10) :
    Ev (C 281 [.ptr B.b 0, .int .i64 w, .agg c.cs] h) fun z => z.1 = .int .i64 (err6 k r w c) ∧ Fr [] h z.2 := by
  refine z1y (af := F.z25) (by kernel_rfl) rfl ?_
  have hcs : V.agg c.cs = .agg [.int .i64 c.kind, .int .i64 c.n, .int .u64 c.h, .int .u64 c.x, .int .u64 c.y] := rfl
  rw [hcs, S.zrd]
  simp only [S.z25]
  have A := AskAt.new ok M c
  have F0 : Fr [] h (h.new (.cells [.int .i64 c.kind, .int .i64 c.n, .int .u64 c.h, .int .u64 c.x, .int .u64 c.y] .rw)) := (Fr.refl ok).new _
  generalize (h.new (.cells [.int .i64 c.kind, .int .i64 c.n, .int .u64 c.h, .int .u64 c.x, .int .u64 c.y] .rw)) = g at A F0 ⊢
  generalize h.next = q at A ⊢
  obtain ⟨i, v, hwi, hv, hW, hCm, iw, lw, lv, R⟩ := A.M.walk w0 w1
  have l8 := A.M.l8
  -- the walk, as one
  have hns := A.M.wo
  obtain ⟨e1, e2⟩ := zod hW hv
  have hlenw : (z1n r.Wk B.ns).length = k.C * 2 := by
    have := A.M.wl
    rw [zh5 (by omega), this.1]
  have hi : i < k.C := by have := z03 hW; have := A.M.wl.1; omega
  have ov := R.slv.one
  have hld2 : ldNB (g.get B.bw) (i * 2) 2 = some (.agg [.int .u64 (r.walk w), v]) := by
    rw [hns, zq, decide_eq_true (by rw [hlenw]; omega)]
    have : ((z1n r.Wk B.ns).drop (i * 2)).take 2 = [.int .u64 (r.walk w), v] := by
      apply List.ext_getElem?
      intro j
      rw [List.getElem?_take]
      by_cases hj : j < 2
      · rw [if_pos hj, List.getElem?_drop]
        match j, hj with
        | 0, _ => exact e1
        | 1, _ => exact e2
      · rw [if_neg hj, List.getElem?_eq_none (by simp; omega)]
    rw [this]
  have F1 : Fr [] g (g.new (.cells [.int .u64 0, .nilsl] .rw)) := (Fr.refl A.ok).new _
  have hp0 := ze g (.cells [.int .u64 0, .nilsl] .rw)
  have hst : (g.new (.cells [.int .u64 0, .nilsl] .rw)).st 2 (.ptr g.next 0) (.agg [.int .u64 (r.walk w), v]) = some ((g.new (.cells [.int .u64 0, .nilsl] .rw)).put g.next (some (.cells [.int .u64 (r.walk w), v] .rw))) := by
    rw [zy, hp0]
    show Option.map _ (stB (some (.cells [.int .u64 0, .nilsl] .rw)) 0 [.int .u64 (r.walk w), v]) = _
    rw [zme (cs := [.int .u64 0, .nilsl]) (l := [.int .u64 (r.walk w), v]) rfl (by simp only [List.all_cons, List.all_nil, ov]; rfl)]; rfl
  have F2 : Fr [] g ((g.new (.cells [.int .u64 0, .nilsl] .rw)).put g.next (some (.cells [.int .u64 (r.walk w), v] .rw))) := F1.put (.inr (Nat.le_refl _)) (Nat.lt_succ_self _) _
  have hp := zs (g.new (.cells [.int .u64 0, .nilsl] .rw)) g.next (some (.cells [.int .u64 (r.walk w), v] .rw))
  simp only [zi, z9, z7, z8, zo, Nat.zero_add, l8, iw, hld2, hst]
  generalize ((g.new (.cells [.int .u64 0, .nilsl] .rw)).put g.next (some (.cells [.int .u64 (r.walk w), v] .rw))) = g2 at F2 hp ⊢
  generalize g.next = p at hp ⊢
  have A2 := A.fr F2
  have hcl := A2.cl
  have l3 := A2.M.l3
  have hh := zog A2.M w
  rw [if_pos ⟨w0, w1⟩] at hh
  have hvl := R.len
  have FF := F0.trans' F2
  have bad : (r.walk w = 0 ∨ r.walk w ≠ c.h ∨ (c.kind = 9 ∧ (r.come w).length = 0)) → err6 k r w c = 6 := fun h => by unfold err6; rw [if_pos h]
  have good : ¬ (r.walk w = 0 ∨ r.walk w ≠ c.h ∨ (c.kind = 9 ∧ (r.come w).length = 0)) → err6 k r w c = if c.kind = 9 ∧ ¬ (r.held w : Int) < k.hd then 5 else 0 := fun h => by unfold err6; rw [if_neg h]
  have lp0 : ldB (g2.get p) 0 = some (.int .u64 (r.walk w)) := by rw [hp]; rfl
  have lp1 : ldB (g2.get p) 1 = some v := by rw [hp, z6]; simp only [List.getElem?_cons_succ, List.getElem?_cons_zero, ov]
  by_cases h0 : c.h = 0
  · have d0 : decide (c.h = 0) = true := decide_eq_true h0
    simp only [S.z4h, S.z3t, S.z3v, S.z3q, z7, z9, z8, z6, List.getElem?_cons_zero, List.getElem?_cons_succ, Nat.zero_add, Nat.add_zero, zf, za, hcl, d0]
    refine Ev.some ⟨?_, FF⟩
    rw [bad]
    by_cases hw : r.walk w = 0
    · exact .inl hw
    · exact .inr (.inl (by rw [h0]; exact hw))
  have d0 : decide (c.h = 0) = false := decide_eq_false h0
  by_cases hh2 : r.walk w = c.h
  rotate_left
  · have dh : decide (r.walk w = c.h) = false := decide_eq_false hh2
    simp only [S.z4h, S.z3t, S.z3v, S.z3q, z7, z9, z8, z6, List.getElem?_cons_zero, List.getElem?_cons_succ, Nat.zero_add, Nat.add_zero, zf, za, Bool.not_false, hcl, lp0, d0, dh]
    exact Ev.some ⟨by rw [bad (.inr (.inl hh2))], FF⟩
  have dh : decide (r.walk w = c.h) = true := decide_eq_true hh2
  have hw0 : r.walk w ≠ 0 := by rw [hh2]; exact h0
  by_cases k10 : c.kind = 10
  · have d10 : decide (c.kind = 10) = true := decide_eq_true k10
    simp only [S.z4h, S.z3t, S.z3v, S.z3q, zi, z7, z9, z8, z6, List.getElem?_cons_zero, List.getElem?_cons_succ, Nat.zero_add, Nat.add_zero, zf, za, Bool.not_true, zh, hcl, lp0, d0, dh, d10]
    refine Ev.some ⟨?_, FF⟩
    rw [good (fun q => q.elim hw0 fun q => q.elim (fun e => e hh2) fun q => by omega), if_neg (by omega)]
  have d10 : decide (c.kind = 10) = false := decide_eq_false k10
  have k9 : c.kind = 9 := by omega
  by_cases hl : ((r.come w).length : Int) = 0
  · have dl : decide (((r.come w).length : Int) = 0) = true := decide_eq_true hl
    simp only [S.z4h, S.z3t, S.z3v, S.z3q, zi, z7, z9, z8, z6, List.getElem?_cons_zero, List.getElem?_cons_succ, Nat.zero_add, Nat.add_zero, zf, za, Bool.not_true, zh, hcl, lp0, lp1, hvl, d0, dh, d10, dl]
    exact Ev.some ⟨by rw [bad (.inr (.inr ⟨k9, by omega⟩))], FF⟩
  have dl : decide (((r.come w).length : Int) = 0) = false := decide_eq_false hl
  have hg := good (fun q => q.elim hw0 fun q => q.elim (fun e => e hh2) fun q => hl (by rw [q.2]; rfl))
  by_cases rm : (r.held w : Int) < k.hd
  · have dr : decide (k.hd ≤ (r.held w : Int)) = false := decide_eq_false (by omega)
    simp only [S.z4h, S.z3t, S.z3v, S.z3q, zi, z7, z9, z8, z6, List.getElem?_cons_zero, List.getElem?_cons_succ, Nat.zero_add, Nat.add_zero, zf, V.beq, z17, za, Bool.not_true, Bool.and_self, decide_true, zh, zi, hcl, lp0, lp1, hvl, l3, hh, d0, dh, d10, dl, dr]
    exact Ev.some ⟨by rw [hg, if_neg (fun q => q.2 rm)], FF⟩
  · have dr : decide (k.hd ≤ (r.held w : Int)) = true := decide_eq_true (by omega)
    simp only [S.z4h, S.z3t, S.z3v, S.z3q, zi, z7, z9, z8, z6, List.getElem?_cons_zero, List.getElem?_cons_succ, Nat.zero_add, Nat.add_zero, zf, V.beq, z17, za, Bool.not_true, Bool.and_self, decide_true, zh, zi, hcl, lp0, lp1, hvl, l3, hh, d0, dh, d10, dl, dr]
    exact Ev.some ⟨by rw [hg, if_pos ⟨k9, rm⟩], FF⟩
theorem z03e {g : H} {q : Nat} (A : AskAt k B r c g q) (I : RIn k r) {w : Int} (w0 : 0 ≤ w) (w1 : w < k.c) (hn : 0 ≤ r.node w c.h) (hf : 2 ≤ c.kind → c.kind ≤ 5 → 0 ≤ c.n ∧ c.n < ((r.fl (r.node w c.h)).length : Int)) :
    Ev ((S.z9z W (S.z9r (.ptr B.b 0) (.int .i64 w) (.ptr q 0) (.int .i64 (r.node w c.h))) g).bind fun p0 => S.zbl W p0.1 p0.2.1 p0.2.2) fun z => z.1 = .int .i64 (zl1 k r w c) ∧ z.2 = g := by
  have hcl := A.cl
  have l6 := A.M.l6
  have l8 := A.M.l8
  have l3 := A.M.l3
  have hh := zog A.M w
  rw [if_pos ⟨w0, w1⟩] at hh
  obtain ⟨i, v, hwi, hv, hW, hCm, iw, lw, lv, R⟩ := A.M.walk w0 w1
  obtain ⟨nn, en, hF⟩ := I.flAt hn
  obtain ⟨b, y, ix, ly, Y⟩ := A.M.rows.at hF
  rw [← en] at ix
  unfold zl1
  by_cases k2 : c.kind = 2
  · obtain ⟨h0, h1⟩ := hf (by omega) (by omega)
    obtain ⟨j, ej, hj⟩ := RSt.fatAt h0 h1
    obtain ⟨b3, o3', i3, l3'⟩ := Y.at hj
    rw [← ej] at i3
    have d2 : decide (c.kind = 2) = true := decide_eq_true k2
    have d8 : decide (c.kind = 8) = false := decide_eq_false (by omega)
    have n8 : ¬ c.kind = 8 := by omega
    by_cases f0 : 0 ≤ r.fat (r.node w c.h) c.n
    · have df : decide (0 ≤ r.fat (r.node w c.h) c.n) = true := decide_eq_true f0
      by_cases rm : (r.held w : Int) < k.hd
      · have dr : decide (k.hd ≤ (r.held w : Int)) = false := decide_eq_false (by omega)
        rw [if_neg (fun q => q.2.2 rm), if_neg (fun q => n8 q.1)]
        simp only [S.z4i, S.z3o, S.z3p, S.z3w, zi, z7, z9, z8, z6, List.getElem?_cons_zero, List.getElem?_cons_succ, Nat.zero_add, Nat.add_zero, zf, V.beq, z17, za, Bool.and_self, decide_true, zh, zi, hcl, l6, l3, hh, d2, ix, ly, i3, l3', df, dr, d8]
        exact Ev.some ⟨rfl, rfl⟩
      · have dr : decide (k.hd ≤ (r.held w : Int)) = true := decide_eq_true (by omega)
        rw [if_pos ⟨k2, f0, rm⟩]
        simp only [S.z4i, S.z3o, S.z3p, S.z3w, zi, z7, z9, z8, z6, List.getElem?_cons_zero, List.getElem?_cons_succ, Nat.zero_add, Nat.add_zero, zf, V.beq, z17, za, Bool.and_self, decide_true, zh, zi, hcl, l6, l3, hh, d2, ix, ly, i3, l3', df, dr]
        exact Ev.some ⟨rfl, rfl⟩
    · have df : decide (0 ≤ r.fat (r.node w c.h) c.n) = false := decide_eq_false f0
      rw [if_neg (fun q => f0 q.2.1), if_neg (fun q => n8 q.1)]
      simp only [S.z4i, S.z3o, S.z3p, S.z3w, zi, z7, z9, z8, z6, List.getElem?_cons_zero, List.getElem?_cons_succ, Nat.zero_add, Nat.add_zero, zf, za, zh, zi, hcl, l6, d2, ix, ly, i3, l3', df, d8]
      exact Ev.some ⟨rfl, rfl⟩
  · have d2 : decide (c.kind = 2) = false := decide_eq_false k2
    rw [if_neg (fun q => k2 q.1)]
    by_cases k8 : c.kind = 8
    · have d8 : decide (c.kind = 8) = true := decide_eq_true k8
      by_cases hw : r.walk w = 0
      · have dw : decide (r.walk w = 0) = true := decide_eq_true hw
        rw [if_neg (fun q => q.2 hw)]
        simp only [S.z4i, S.z3o, S.z3p, S.z3w, zi, z7, z9, z8, z6, List.getElem?_cons_zero, List.getElem?_cons_succ, Nat.zero_add, Nat.add_zero, zf, za, Bool.not_true, zh, zi, hcl, l8, d2, d8, iw, lw, dw]
        exact Ev.some ⟨rfl, rfl⟩
      · have dw : decide (r.walk w = 0) = false := decide_eq_false hw
        rw [if_pos ⟨k8, hw⟩]
        simp only [S.z4i, S.z3o, S.z3p, S.z3w, zi, z7, z9, z8, z6, List.getElem?_cons_zero, List.getElem?_cons_succ, Nat.zero_add, Nat.add_zero, zf, za, Bool.not_false, zh, zi, hcl, l8, d2, d8, iw, lw, dw]
        exact Ev.some ⟨rfl, rfl⟩
    · have d8 : decide (c.kind = 8) = false := decide_eq_false k8
      rw [if_neg (fun q => k8 q.1)]
      simp only [S.z4i, S.z3o, S.z3p, S.z3w, zi, z7, z9, z8, z6, List.getElem?_cons_zero, List.getElem?_cons_succ, Nat.zero_add, Nat.add_zero, zf, za, zh, hcl, d2, d8]
      exact Ev.some ⟨rfl, rfl⟩
theorem z03m {g : H} {q : Nat} (A : AskAt k B r c g q) (I : RIn k r) {w : Int} (w0 : 0 ≤ w) (w1 : w < k.c) (hn : 0 ≤ r.node w c.h) :
    Ev ((S.zcg W (S.zcn (.ptr B.b 0) (.int .i64 w) (.ptr q 0) (.int .i64 (r.node w c.h))) g).bind fun p0 => S.zed W p0.1 p0.2.1 p0.2.2) fun z => z.1 = .int .i64 (zbr k r w c) ∧ z.2 = g := by
  have hcl := A.cl
  have l6 := A.M.l6
  obtain ⟨nn, en, hF⟩ := I.flAt hn
  obtain ⟨b, y, ix, ly, Y⟩ := A.M.rows.at hF
  have hyl := Y.len
  rw [← en] at ix
  have hWr := zr6 c.kind g
  have bad : (2 ≤ c.kind ∧ c.kind ≤ 5) ∧ (c.n < 0 ∨ ((r.fl (r.node w c.h)).length : Int) ≤ c.n) → zbr k r w c = 3 := fun hc => by unfold zbr; rw [if_pos hc]
  have good : ¬ ((2 ≤ c.kind ∧ c.kind ≤ 5) ∧ (c.n < 0 ∨ ((r.fl (r.node w c.h)).length : Int) ≤ c.n)) → zbr k r w c = zl1 k r w c := fun hc => by unfold zbr; rw [if_neg hc]
  have fin : ¬ ((2 ≤ c.kind ∧ c.kind ≤ 5) ∧ (c.n < 0 ∨ ((r.fl (r.node w c.h)).length : Int) ≤ c.n)) → Ev ((S.z9z W (S.z9r (.ptr B.b 0) (.int .i64 w) (.ptr q 0) (.int .i64 (r.node w c.h))) g).bind fun p0 => S.zbl W p0.1 p0.2.1 p0.2.2) fun z => z.1 = .int .i64 (zbr k r w c) ∧ z.2 = g := fun hc => by
    rw [good hc]
    exact z03e A I w0 w1 hn fun h1 h2 => ⟨Int.not_lt.mp fun e => hc ⟨⟨h1, h2⟩, .inl e⟩, Int.not_le.mp fun e => hc ⟨⟨h1, h2⟩, .inr e⟩⟩
  -- does it name a field?
  by_cases kf : 2 ≤ c.kind ∧ c.kind ≤ 5
  · by_cases k2 : c.kind = 2
    · have d2 : decide (c.kind = 2) = true := decide_eq_true k2
      by_cases n0 : c.n < 0
      · have dn : decide (c.n < 0) = true := decide_eq_true n0
        simp only [S.z3b, S.z2s, S.z2j, S.z2x, zi, z7, z9, z8, z6, List.getElem?_cons_zero, List.getElem?_cons_succ, Nat.zero_add, Nat.add_zero, zf, za, zh, hcl, d2, dn]
        exact Ev.some ⟨by rw [bad ⟨kf, .inl n0⟩], rfl⟩
      · have dn : decide (c.n < 0) = false := decide_eq_false n0
        by_cases nl : ((r.fl (r.node w c.h)).length : Int) ≤ c.n
        · have dl : decide (((r.fl (r.node w c.h)).length : Int) ≤ c.n) = true := decide_eq_true nl
          simp only [S.z3b, S.z2s, S.z2j, S.z2x, zi, z7, z9, z8, z6, List.getElem?_cons_zero, List.getElem?_cons_succ, Nat.zero_add, Nat.add_zero, zf, za, zh, zi, hcl, l6, ix, ly, hyl, d2, dn, dl]
          exact Ev.some ⟨by rw [bad ⟨kf, .inr nl⟩], rfl⟩
        · have dl : decide (((r.fl (r.node w c.h)).length : Int) ≤ c.n) = false := decide_eq_false nl
          simp only [S.z3b, S.z2s, S.z2j, S.z2x, zi, z7, z9, z8, z6, List.getElem?_cons_zero, List.getElem?_cons_succ, Nat.zero_add, Nat.add_zero, zf, za, zh, zi, hcl, l6, ix, ly, hyl, d2, dn, dl]
          exact fin fun q => q.2.elim n0 nl
    · have d2 : decide (c.kind = 2) = false := decide_eq_false k2
      rw [decide_eq_true (show 3 ≤ c.kind by omega), decide_eq_true kf.2] at hWr
      by_cases n0 : c.n < 0
      · have dn : decide (c.n < 0) = true := decide_eq_true n0
        simp only [S.z3b, S.z2s, S.z2j, S.z2x, zi, z7, z9, z8, z6, List.getElem?_cons_zero, List.getElem?_cons_succ, Nat.zero_add, Nat.add_zero, zf, za, Bool.and_self, zh, hcl, d2, hWr, dn]
        exact Ev.some ⟨by rw [bad ⟨kf, .inl n0⟩], rfl⟩
      · have dn : decide (c.n < 0) = false := decide_eq_false n0
        by_cases nl : ((r.fl (r.node w c.h)).length : Int) ≤ c.n
        · have dl : decide (((r.fl (r.node w c.h)).length : Int) ≤ c.n) = true := decide_eq_true nl
          simp only [S.z3b, S.z2s, S.z2j, S.z2x, zi, z7, z9, z8, z6, List.getElem?_cons_zero, List.getElem?_cons_succ, Nat.zero_add, Nat.add_zero, zf, za, Bool.and_self, zh, zi, hcl, l6, ix, ly, hyl, d2, hWr, dn, dl]
          exact Ev.some ⟨by rw [bad ⟨kf, .inr nl⟩], rfl⟩
        · have dl : decide (((r.fl (r.node w c.h)).length : Int) ≤ c.n) = false := decide_eq_false nl
          simp only [S.z3b, S.z2s, S.z2j, S.z2x, zi, z7, z9, z8, z6, List.getElem?_cons_zero, List.getElem?_cons_succ, Nat.zero_add, Nat.add_zero, zf, za, Bool.and_self, zh, zi, hcl, l6, ix, ly, hyl, d2, hWr, dn, dl]
          exact fin fun q => q.2.elim n0 nl
  · have d2 : decide (c.kind = 2) = false := decide_eq_false fun e => kf ⟨by omega, by omega⟩
    have hb : (decide (3 ≤ c.kind) && decide (c.kind ≤ 5)) = false := by
      cases h3 : decide (3 ≤ c.kind) with
      | false => rfl
      | true =>
        have := of_decide_eq_true h3
        rw [decide_eq_false (fun q => kf ⟨by omega, q⟩)]; rfl
    rw [hb] at hWr
    simp only [S.z3b, S.z2s, S.z2j, S.z2x, zi, z7, z9, z8, z6, List.getElem?_cons_zero, List.getElem?_cons_succ, Nat.zero_add, Nat.add_zero, zf, za, zh, hcl, d2, hWr]
    exact fin fun q => kf q.1
theorem z008 {h : H} (ok : h.ok) (M : MdAt k h.get B r) (I : RIn k r) {w : Int} (w0 : 0 ≤ w) (w1 : w < k.c) :
    Ev (C 282 [.ptr B.b 0, .int .i64 w, .agg c.cs] h) fun z => z.1 = .int .i64 (err9 k r w c) ∧ Fr [] h z.2 := by
  refine z1y (af := F.z0i) (by kernel_rfl) rfl ?_
  have hcs : V.agg c.cs = .agg [.int .i64 c.kind, .int .i64 c.n, .int .u64 c.h, .int .u64 c.x, .int .u64 c.y] := rfl
  rw [hcs, S.zsp]
  simp only [S.z0i]
  have A := AskAt.new ok M c
  have F0 : Fr [] h (h.new (.cells [.int .i64 c.kind, .int .i64 c.n, .int .u64 c.h, .int .u64 c.x, .int .u64 c.y] .rw)) := (Fr.refl ok).new _
  generalize (h.new (.cells [.int .i64 c.kind, .int .i64 c.n, .int .u64 c.h, .int .u64 c.x, .int .u64 c.y] .rw)) = g at A F0 ⊢
  generalize h.next = q at A ⊢
  have hcl := A.cl
  have n1 := zax A.M w c.h
  have n2 := zax A.M w c.x
  have n3 := zax A.M w c.y
  rw [if_pos ⟨w0, w1⟩] at n1 n2 n3
  rw [z00t]
  -- what stands behind the switch
  have fin : ∀ b : Bool, b = !bad9 (r.node w c.h) (r.node w c.x) (r.node w c.y) c → Ev (S.za0 W (.ptr B.b 0) w (.ptr q 0) (r.node w c.h) b g) fun z => z.1 = .int .i64 (if bad9 (r.node w c.h) (r.node w c.x) (r.node w c.y) c then 2 else zbr k r w c) ∧ Fr [] h z.2 := by
    rintro b rfl
    cases hb : bad9 (r.node w c.h) (r.node w c.x) (r.node w c.y) c with
    | true =>
      simp only [S.za0, Bool.not_true, Bool.not_false, if_true]
      exact Ev.some ⟨rfl, F0⟩
    | false =>
      have hn : 0 ≤ r.node w c.h := by
        unfold bad9 at hb
        simp only [Bool.or_eq_false_iff, decide_eq_false_iff_not] at hb
        exact Int.not_lt.mp hb.1.1.1
      simp only [S.za0, Bool.not_true, Bool.not_false, if_false, Bool.false_eq_true, if_false]
      exact (z03m A I w0 w1 hn).mono fun z hz => ⟨hz.1, by rw [hz.2]; exact F0⟩
  have hneg : decide (r.node w c.h < 0) = !decide (0 ≤ r.node w c.h) := by
    cases h0 : decide (0 ≤ r.node w c.h) with
    | true => exact decide_eq_false (by have := of_decide_eq_true h0; omega)
    | false => exact decide_eq_true (by have := of_decide_eq_false h0; omega)
  simp only [z9, z8, z6, List.getElem?_cons_zero, List.getElem?_cons_succ, zf, za, zh, hcl, n1]
  unfold bad9 at fin ⊢
  rw [hneg] at fin ⊢
  cases d3 : decide (c.kind = 3) with
  | true =>
    have d7 : decide (c.kind = 7) = false := decide_eq_false (by have := of_decide_eq_true d3; omega)
    have d5 : decide (c.kind = 5) = false := decide_eq_false (by have := of_decide_eq_true d3; omega)
    rw [d3, d7, d5] at fin
    cases dh : decide (0 ≤ r.node w c.h) with
    | true =>
      rw [dh] at fin
      simp only [S.z15, S.z0z, S.z0q, S.z13, S.z0x, S.z0s, S.z0y, z7, z9, z8, z6, List.getElem?_cons_zero, List.getElem?_cons_succ, Nat.zero_add, Nat.add_zero, zf, za, Bool.true_and, Bool.false_and, Bool.not_true, Bool.or_false, Bool.false_or, zh, hcl, d3, d7, d5, n2]
      have := fin (decide (0 ≤ r.node w c.x)) (by cases decide (0 ≤ r.node w c.x) <;> rfl)
      simpa only [zi, z47, z52, z1j, z91, z79, zay, zaz, z7, z9, Option.map_some, z8, zo, zy, get_put', z83, zad, z6, zq, z0e, H.next_new, H.next_put, List.getElem?_cons_zero, List.getElem?_cons_succ, Nat.zero_add, Nat.add_zero, Nat.reduceAdd, Nat.reduceLeDiff, Nat.reduceLT, Nat.reduceMul, Nat.reduceSub, Nat.reduceEqDiff, Int.reduceEq, Int.reduceLT, Int.reduceLE, Int.reduceNeg, z23, zf, zcc, zct, zb9, zd4, z4j, zcy, z76, zer, z9m, zd3, z75, z7h, z2b, z8p, z8s, z72, zaf, z4g, z8m, z54, zbi, z68, z96, z4y, z0o, V.beq, V.beqs, z17, za, zw, z64, asS, List.length_cons, List.length_nil, Nat.beq_refl, List.all_cons, List.all_nil, Bool.and_true, Bool.and_false, Bool.true_and, Bool.false_and, Bool.not_true, Bool.not_false, Bool.or_false, Bool.false_or, Bool.or_self, Bool.and_self, decide_true, decide_false, if_true, if_false, z02, List.take_succ_cons, List.take_zero, List.drop_succ_cons, List.drop_zero, List.cons_append, List.nil_append, List.set_cons_zero, List.set_cons_succ, reduceCtorEq, fill, repl, opd, zb1, z82, zcd, zcw, zbh, zd5, z9p, zci, z78, zet, z8x, zch, z7g, z9q, finV, z2g, z3z, z2n, eqV, zf3, z4w, part, zh, Nat.reduceBEq, Nat.beq_eq, Bool.true_or, Bool.or_true] using this
    | false =>
      rw [dh] at fin
      simp only [S.z15, S.z0z, S.z0q, S.z13, S.z0x, S.z0s, S.z0y, z7, z9, z8, z6, List.getElem?_cons_zero, Nat.add_zero, zf, Bool.true_and, Bool.false_and, Bool.not_false, Bool.or_false, hcl, d3, d7, d5]
      have := fin false (by rfl)
      simpa only [zi, z47, z52, z1j, z91, z79, zay, zaz, z7, z9, Option.map_some, z8, zo, zy, get_put', z83, zad, z6, zq, z0e, H.next_new, H.next_put, List.getElem?_cons_zero, List.getElem?_cons_succ, Nat.zero_add, Nat.add_zero, Nat.reduceAdd, Nat.reduceLeDiff, Nat.reduceLT, Nat.reduceMul, Nat.reduceSub, Nat.reduceEqDiff, Int.reduceEq, Int.reduceLT, Int.reduceLE, Int.reduceNeg, z23, zf, zcc, zct, zb9, zd4, z4j, zcy, z76, zer, z9m, zd3, z75, z7h, z2b, z8p, z8s, z72, zaf, z4g, z8m, z54, zbi, z68, z96, z4y, z0o, V.beq, V.beqs, z17, za, zw, z64, asS, List.length_cons, List.length_nil, Nat.beq_refl, List.all_cons, List.all_nil, Bool.and_true, Bool.and_false, Bool.true_and, Bool.false_and, Bool.not_true, Bool.not_false, Bool.or_false, Bool.false_or, Bool.or_self, Bool.and_self, decide_true, decide_false, if_true, if_false, z02, List.take_succ_cons, List.take_zero, List.drop_succ_cons, List.drop_zero, List.cons_append, List.nil_append, List.set_cons_zero, List.set_cons_succ, reduceCtorEq, fill, repl, opd, zb1, z82, zcd, zcw, zbh, zd5, z9p, zci, z78, zet, z8x, zch, z7g, z9q, finV, z2g, z3z, z2n, eqV, zf3, z4w, part, zh, Nat.reduceBEq, Nat.beq_eq, Bool.true_or, Bool.or_true] using this
  | false =>
  cases d7 : decide (c.kind = 7) with
  | true =>
    have d5 : decide (c.kind = 5) = false := decide_eq_false (by have := of_decide_eq_true d7; omega)
    rw [d3, d7, d5] at fin
    cases dh : decide (0 ≤ r.node w c.h) with
    | true =>
      rw [dh] at fin
      simp only [S.z15, S.z0z, S.z0q, S.z13, S.z0x, S.z0s, S.z0y, z7, z9, z8, z6, List.getElem?_cons_zero, List.getElem?_cons_succ, Nat.zero_add, Nat.add_zero, zf, za, Bool.true_and, Bool.false_and, Bool.not_true, Bool.or_false, Bool.false_or, Bool.or_self, zh, hcl, d3, d7, d5, n2]
      have := fin (decide (0 ≤ r.node w c.x)) (by cases decide (0 ≤ r.node w c.x) <;> rfl)
      simpa only [zi, z47, z52, z1j, z91, z79, zay, zaz, z7, z9, Option.map_some, z8, zo, zy, get_put', z83, zad, z6, zq, z0e, H.next_new, H.next_put, List.getElem?_cons_zero, List.getElem?_cons_succ, Nat.zero_add, Nat.add_zero, Nat.reduceAdd, Nat.reduceLeDiff, Nat.reduceLT, Nat.reduceMul, Nat.reduceSub, Nat.reduceEqDiff, Int.reduceEq, Int.reduceLT, Int.reduceLE, Int.reduceNeg, z23, zf, zcc, zct, zb9, zd4, z4j, zcy, z76, zer, z9m, zd3, z75, z7h, z2b, z8p, z8s, z72, zaf, z4g, z8m, z54, zbi, z68, z96, z4y, z0o, V.beq, V.beqs, z17, za, zw, z64, asS, List.length_cons, List.length_nil, Nat.beq_refl, List.all_cons, List.all_nil, Bool.and_true, Bool.and_false, Bool.true_and, Bool.false_and, Bool.not_true, Bool.not_false, Bool.or_false, Bool.false_or, Bool.or_self, Bool.and_self, decide_true, decide_false, if_true, if_false, z02, List.take_succ_cons, List.take_zero, List.drop_succ_cons, List.drop_zero, List.cons_append, List.nil_append, List.set_cons_zero, List.set_cons_succ, reduceCtorEq, fill, repl, opd, zb1, z82, zcd, zcw, zbh, zd5, z9p, zci, z78, zet, z8x, zch, z7g, z9q, finV, z2g, z3z, z2n, eqV, zf3, z4w, part, zh, Nat.reduceBEq, Nat.beq_eq, Bool.true_or, Bool.or_true] using this
    | false =>
      rw [dh] at fin
      simp only [S.z15, S.z0z, S.z0q, S.z13, S.z0x, S.z0s, S.z0y, z7, z9, z8, z6, List.getElem?_cons_zero, Nat.add_zero, zf, Bool.true_and, Bool.false_and, Bool.not_false, Bool.or_false, hcl, d3, d7, d5]
      have := fin false (by rfl)
      simpa only [zi, z47, z52, z1j, z91, z79, zay, zaz, z7, z9, Option.map_some, z8, zo, zy, get_put', z83, zad, z6, zq, z0e, H.next_new, H.next_put, List.getElem?_cons_zero, List.getElem?_cons_succ, Nat.zero_add, Nat.add_zero, Nat.reduceAdd, Nat.reduceLeDiff, Nat.reduceLT, Nat.reduceMul, Nat.reduceSub, Nat.reduceEqDiff, Int.reduceEq, Int.reduceLT, Int.reduceLE, Int.reduceNeg, z23, zf, zcc, zct, zb9, zd4, z4j, zcy, z76, zer, z9m, zd3, z75, z7h, z2b, z8p, z8s, z72, zaf, z4g, z8m, z54, zbi, z68, z96, z4y, z0o, V.beq, V.beqs, z17, za, zw, z64, asS, List.length_cons, List.length_nil, Nat.beq_refl, List.all_cons, List.all_nil, Bool.and_true, Bool.and_false, Bool.true_and, Bool.false_and, Bool.not_true, Bool.not_false, Bool.or_false, Bool.false_or, Bool.or_self, Bool.and_self, decide_true, decide_false, if_true, if_false, z02, List.take_succ_cons, List.take_zero, List.drop_succ_cons, List.drop_zero, List.cons_append, List.nil_append, List.set_cons_zero, List.set_cons_succ, reduceCtorEq, fill, repl, opd, zb1, z82, zcd, zcw, zbh, zd5, z9p, zci, z78, zet, z8x, zch, z7g, z9q, finV, z2g, z3z, z2n, eqV, zf3, z4w, part, zh, Nat.reduceBEq, Nat.beq_eq, Bool.true_or, Bool.or_true] using this
  | false =>
  cases d5 : decide (c.kind = 5) with
  | false =>
    rw [d3, d7, d5] at fin
    simp only [S.z15, S.z0z, S.z0q, S.z13, S.z0x, S.z0s, S.z0y, z7, z9, z8, z6, List.getElem?_cons_zero, Nat.add_zero, zf, Bool.false_and, Bool.or_false, hcl, d3, d7, d5]
    have := fin (decide (0 ≤ r.node w c.h)) (by cases decide (0 ≤ r.node w c.h) <;> rfl)
    simpa only [zi, z47, z52, z1j, z91, z79, zay, zaz, z7, z9, Option.map_some, z8, zo, zy, get_put', z83, zad, z6, zq, z0e, H.next_new, H.next_put, List.getElem?_cons_zero, List.getElem?_cons_succ, Nat.zero_add, Nat.add_zero, Nat.reduceAdd, Nat.reduceLeDiff, Nat.reduceLT, Nat.reduceMul, Nat.reduceSub, Nat.reduceEqDiff, Int.reduceEq, Int.reduceLT, Int.reduceLE, Int.reduceNeg, z23, zf, zcc, zct, zb9, zd4, z4j, zcy, z76, zer, z9m, zd3, z75, z7h, z2b, z8p, z8s, z72, zaf, z4g, z8m, z54, zbi, z68, z96, z4y, z0o, V.beq, V.beqs, z17, za, zw, z64, asS, List.length_cons, List.length_nil, Nat.beq_refl, List.all_cons, List.all_nil, Bool.and_true, Bool.and_false, Bool.true_and, Bool.false_and, Bool.not_true, Bool.not_false, Bool.or_false, Bool.false_or, Bool.or_self, Bool.and_self, decide_true, decide_false, if_true, if_false, z02, List.take_succ_cons, List.take_zero, List.drop_succ_cons, List.drop_zero, List.cons_append, List.nil_append, List.set_cons_zero, List.set_cons_succ, reduceCtorEq, fill, repl, opd, zb1, z82, zcd, zcw, zbh, zd5, z9p, zci, z78, zet, z8x, zch, z7g, z9q, finV, z2g, z3z, z2n, eqV, zf3, z4w, part, zh, Nat.reduceBEq, Nat.beq_eq, Bool.true_or, Bool.or_true] using this
  | true =>
    rw [d3, d7, d5] at fin
    cases dh : decide (0 ≤ r.node w c.h) with
    | false =>
      rw [dh] at fin
      simp only [S.z15, S.z0z, S.z0q, S.z13, S.z0x, S.z0s, S.z0y, z7, z9, z8, z6, List.getElem?_cons_zero, Nat.add_zero, zf, Bool.true_and, Bool.false_and, Bool.not_false, Bool.or_false, hcl, d3, d7, d5]
      have := fin false (by rfl)
      simpa only [zi, z47, z52, z1j, z91, z79, zay, zaz, z7, z9, Option.map_some, z8, zo, zy, get_put', z83, zad, z6, zq, z0e, H.next_new, H.next_put, List.getElem?_cons_zero, List.getElem?_cons_succ, Nat.zero_add, Nat.add_zero, Nat.reduceAdd, Nat.reduceLeDiff, Nat.reduceLT, Nat.reduceMul, Nat.reduceSub, Nat.reduceEqDiff, Int.reduceEq, Int.reduceLT, Int.reduceLE, Int.reduceNeg, z23, zf, zcc, zct, zb9, zd4, z4j, zcy, z76, zer, z9m, zd3, z75, z7h, z2b, z8p, z8s, z72, zaf, z4g, z8m, z54, zbi, z68, z96, z4y, z0o, V.beq, V.beqs, z17, za, zw, z64, asS, List.length_cons, List.length_nil, Nat.beq_refl, List.all_cons, List.all_nil, Bool.and_true, Bool.and_false, Bool.true_and, Bool.false_and, Bool.not_true, Bool.not_false, Bool.or_false, Bool.false_or, Bool.or_self, Bool.and_self, decide_true, decide_false, if_true, if_false, z02, List.take_succ_cons, List.take_zero, List.drop_succ_cons, List.drop_zero, List.cons_append, List.nil_append, List.set_cons_zero, List.set_cons_succ, reduceCtorEq, fill, repl, opd, zb1, z82, zcd, zcw, zbh, zd5, z9p, zci, z78, zet, z8x, zch, z7g, z9q, finV, z2g, z3z, z2n, eqV, zf3, z4w, part, zh, Nat.reduceBEq, Nat.beq_eq, Bool.true_or, Bool.or_true] using this
    | true =>
      rw [dh] at fin
      cases ex : decide (c.x = 0) with
      | true =>
        rw [ex] at fin
        cases ey : decide (c.y = 0) with
        | true =>
          rw [ey] at fin
          simp only [S.z15, S.z0z, S.z0q, S.z13, S.z0x, S.z0s, S.z0y, z7, z9, z8, z6, List.getElem?_cons_zero, List.getElem?_cons_succ, Nat.zero_add, Nat.add_zero, zf, za, Bool.and_false, Bool.false_and, Bool.not_true, Bool.or_self, if_false, reduceCtorEq, zh, hcl, d3, d7, d5, ex, ey]
          have := fin true (by rfl)
          simpa only [zi, z47, z52, z1j, z91, z79, zay, zaz, z7, z9, Option.map_some, z8, zo, zy, get_put', z83, zad, z6, zq, z0e, H.next_new, H.next_put, List.getElem?_cons_zero, List.getElem?_cons_succ, Nat.zero_add, Nat.add_zero, Nat.reduceAdd, Nat.reduceLeDiff, Nat.reduceLT, Nat.reduceMul, Nat.reduceSub, Nat.reduceEqDiff, Int.reduceEq, Int.reduceLT, Int.reduceLE, Int.reduceNeg, z23, zf, zcc, zct, zb9, zd4, z4j, zcy, z76, zer, z9m, zd3, z75, z7h, z2b, z8p, z8s, z72, zaf, z4g, z8m, z54, zbi, z68, z96, z4y, z0o, V.beq, V.beqs, z17, za, zw, z64, asS, List.length_cons, List.length_nil, Nat.beq_refl, List.all_cons, List.all_nil, Bool.and_true, Bool.and_false, Bool.true_and, Bool.false_and, Bool.not_true, Bool.not_false, Bool.or_false, Bool.false_or, Bool.or_self, Bool.and_self, decide_true, decide_false, if_true, if_false, z02, List.take_succ_cons, List.take_zero, List.drop_succ_cons, List.drop_zero, List.cons_append, List.nil_append, List.set_cons_zero, List.set_cons_succ, reduceCtorEq, fill, repl, opd, zb1, z82, zcd, zcw, zbh, zd5, z9p, zci, z78, zet, z8x, zch, z7g, z9q, finV, z2g, z3z, z2n, eqV, zf3, z4w, part, zh, Nat.reduceBEq, Nat.beq_eq, Bool.true_or, Bool.or_true] using this
        | false =>
          rw [ey] at fin
          simp only [S.z15, S.z0z, S.z0q, S.z13, S.z0x, S.z0s, S.z0y, z7, z9, z8, z6, List.getElem?_cons_zero, List.getElem?_cons_succ, Nat.zero_add, Nat.add_zero, zf, za, Bool.true_and, Bool.false_and, Bool.not_true, Bool.not_false, Bool.false_or, Bool.or_self, zh, hcl, d3, d7, d5, ex, ey, n3]
          have := fin (decide (0 ≤ r.node w c.y)) (by cases decide (0 ≤ r.node w c.y) <;> cases decide (0 ≤ r.node w c.x) <;> rfl)
          simpa only [zi, z47, z52, z1j, z91, z79, zay, zaz, z7, z9, Option.map_some, z8, zo, zy, get_put', z83, zad, z6, zq, z0e, H.next_new, H.next_put, List.getElem?_cons_zero, List.getElem?_cons_succ, Nat.zero_add, Nat.add_zero, Nat.reduceAdd, Nat.reduceLeDiff, Nat.reduceLT, Nat.reduceMul, Nat.reduceSub, Nat.reduceEqDiff, Int.reduceEq, Int.reduceLT, Int.reduceLE, Int.reduceNeg, z23, zf, zcc, zct, zb9, zd4, z4j, zcy, z76, zer, z9m, zd3, z75, z7h, z2b, z8p, z8s, z72, zaf, z4g, z8m, z54, zbi, z68, z96, z4y, z0o, V.beq, V.beqs, z17, za, zw, z64, asS, List.length_cons, List.length_nil, Nat.beq_refl, List.all_cons, List.all_nil, Bool.and_true, Bool.and_false, Bool.true_and, Bool.false_and, Bool.not_true, Bool.not_false, Bool.or_false, Bool.false_or, Bool.or_self, Bool.and_self, decide_true, decide_false, if_true, if_false, z02, List.take_succ_cons, List.take_zero, List.drop_succ_cons, List.drop_zero, List.cons_append, List.nil_append, List.set_cons_zero, List.set_cons_succ, reduceCtorEq, fill, repl, opd, zb1, z82, zcd, zcw, zbh, zd5, z9p, zci, z78, zet, z8x, zch, z7g, z9q, finV, z2g, z3z, z2n, eqV, zf3, z4w, part, zh, Nat.reduceBEq, Nat.beq_eq, Bool.true_or, Bool.or_true] using this
      | false =>
        rw [ex] at fin
        cases dx : decide (0 ≤ r.node w c.x) with
        | false =>
          rw [dx] at fin
          simp only [S.z15, S.z0z, S.z0q, S.z13, S.z0x, S.z0s, S.z0y, z7, z9, z8, z6, List.getElem?_cons_zero, List.getElem?_cons_succ, Nat.zero_add, Nat.add_zero, zf, za, Bool.and_true, Bool.true_and, Bool.not_true, Bool.not_false, Bool.false_or, Bool.or_self, Bool.and_self, zh, hcl, d3, d7, d5, ex, n2, dx]
          have := fin false (by rfl)
          simpa only [zi, z47, z52, z1j, z91, z79, zay, zaz, z7, z9, Option.map_some, z8, zo, zy, get_put', z83, zad, z6, zq, z0e, H.next_new, H.next_put, List.getElem?_cons_zero, List.getElem?_cons_succ, Nat.zero_add, Nat.add_zero, Nat.reduceAdd, Nat.reduceLeDiff, Nat.reduceLT, Nat.reduceMul, Nat.reduceSub, Nat.reduceEqDiff, Int.reduceEq, Int.reduceLT, Int.reduceLE, Int.reduceNeg, z23, zf, zcc, zct, zb9, zd4, z4j, zcy, z76, zer, z9m, zd3, z75, z7h, z2b, z8p, z8s, z72, zaf, z4g, z8m, z54, zbi, z68, z96, z4y, z0o, V.beq, V.beqs, z17, za, zw, z64, asS, List.length_cons, List.length_nil, Nat.beq_refl, List.all_cons, List.all_nil, Bool.and_true, Bool.and_false, Bool.true_and, Bool.false_and, Bool.not_true, Bool.not_false, Bool.or_false, Bool.false_or, Bool.or_self, Bool.and_self, decide_true, decide_false, if_true, if_false, z02, List.take_succ_cons, List.take_zero, List.drop_succ_cons, List.drop_zero, List.cons_append, List.nil_append, List.set_cons_zero, List.set_cons_succ, reduceCtorEq, fill, repl, opd, zb1, z82, zcd, zcw, zbh, zd5, z9p, zci, z78, zet, z8x, zch, z7g, z9q, finV, z2g, z3z, z2n, eqV, zf3, z4w, part, zh, Nat.reduceBEq, Nat.beq_eq, Bool.true_or, Bool.or_true] using this
        | true =>
          rw [dx] at fin
          cases ey : decide (c.y = 0) with
          | true =>
            rw [ey] at fin
            simp only [S.z15, S.z0z, S.z0q, S.z13, S.z0x, S.z0s, S.z0y, z7, z9, z8, z6, List.getElem?_cons_zero, List.getElem?_cons_succ, Nat.zero_add, Nat.add_zero, zf, za, Bool.and_false, Bool.false_and, Bool.not_true, Bool.not_false, Bool.or_self, Bool.and_self, if_false, reduceCtorEq, zh, hcl, d3, d7, d5, ex, n2, dx, ey]
            have := fin true (by rfl)
            simpa only [zi, z47, z52, z1j, z91, z79, zay, zaz, z7, z9, Option.map_some, z8, zo, zy, get_put', z83, zad, z6, zq, z0e, H.next_new, H.next_put, List.getElem?_cons_zero, List.getElem?_cons_succ, Nat.zero_add, Nat.add_zero, Nat.reduceAdd, Nat.reduceLeDiff, Nat.reduceLT, Nat.reduceMul, Nat.reduceSub, Nat.reduceEqDiff, Int.reduceEq, Int.reduceLT, Int.reduceLE, Int.reduceNeg, z23, zf, zcc, zct, zb9, zd4, z4j, zcy, z76, zer, z9m, zd3, z75, z7h, z2b, z8p, z8s, z72, zaf, z4g, z8m, z54, zbi, z68, z96, z4y, z0o, V.beq, V.beqs, z17, za, zw, z64, asS, List.length_cons, List.length_nil, Nat.beq_refl, List.all_cons, List.all_nil, Bool.and_true, Bool.and_false, Bool.true_and, Bool.false_and, Bool.not_true, Bool.not_false, Bool.or_false, Bool.false_or, Bool.or_self, Bool.and_self, decide_true, decide_false, if_true, if_false, z02, List.take_succ_cons, List.take_zero, List.drop_succ_cons, List.drop_zero, List.cons_append, List.nil_append, List.set_cons_zero, List.set_cons_succ, reduceCtorEq, fill, repl, opd, zb1, z82, zcd, zcw, zbh, zd5, z9p, zci, z78, zet, z8x, zch, z7g, z9q, finV, z2g, z3z, z2n, eqV, zf3, z4w, part, zh, Nat.reduceBEq, Nat.beq_eq, Bool.true_or, Bool.or_true] using this
          | false =>
            rw [ey] at fin
            simp only [S.z15, S.z0z, S.z0q, S.z13, S.z0x, S.z0s, S.z0y, z7, z9, z8, z6, List.getElem?_cons_zero, List.getElem?_cons_succ, Nat.zero_add, Nat.add_zero, zf, za, Bool.and_false, Bool.true_and, Bool.not_true, Bool.not_false, Bool.false_or, Bool.or_self, Bool.and_self, zh, hcl, d3, d7, d5, ex, n2, dx, ey, n3]
            have := fin (decide (0 ≤ r.node w c.y)) (by cases decide (0 ≤ r.node w c.y) <;> rfl)
            simpa only [zi, z47, z52, z1j, z91, z79, zay, zaz, z7, z9, Option.map_some, z8, zo, zy, get_put', z83, zad, z6, zq, z0e, H.next_new, H.next_put, List.getElem?_cons_zero, List.getElem?_cons_succ, Nat.zero_add, Nat.add_zero, Nat.reduceAdd, Nat.reduceLeDiff, Nat.reduceLT, Nat.reduceMul, Nat.reduceSub, Nat.reduceEqDiff, Int.reduceEq, Int.reduceLT, Int.reduceLE, Int.reduceNeg, z23, zf, zcc, zct, zb9, zd4, z4j, zcy, z76, zer, z9m, zd3, z75, z7h, z2b, z8p, z8s, z72, zaf, z4g, z8m, z54, zbi, z68, z96, z4y, z0o, V.beq, V.beqs, z17, za, zw, z64, asS, List.length_cons, List.length_nil, Nat.beq_refl, List.all_cons, List.all_nil, Bool.and_true, Bool.and_false, Bool.true_and, Bool.false_and, Bool.not_true, Bool.not_false, Bool.or_false, Bool.false_or, Bool.or_self, Bool.and_self, decide_true, decide_false, if_true, if_false, z02, List.take_succ_cons, List.take_zero, List.drop_succ_cons, List.drop_zero, List.cons_append, List.nil_append, List.set_cons_zero, List.set_cons_succ, reduceCtorEq, fill, repl, opd, zb1, z82, zcd, zcw, zbh, zd5, z9p, zci, z78, zet, z8x, zch, z7g, z9q, finV, z2g, z3z, z2n, eqV, zf3, z4w, part, zh, Nat.reduceBEq, Nat.beq_eq, Bool.true_or, Bool.or_true] using this
theorem zpw {h : H} (ok : h.ok) (M : MdAt k h.get B r) (I : RIn k r) {w : Int} (w0 : 0 ≤ w) (w1 : w < k.c) (hn : 0 ≤ r.node w c.h) (hf : 0 ≤ c.n ∧ c.n < ((r.fl (r.node w c.h)).length : Int)) :
    Ev (C 283 [.ptr B.b 0, .int .i64 w, .agg c.cs] h) fun z => z.1 = .bool (zn8 r w c) ∧ Fr [] h z.2 := by
  refine z1y (af := F.z3n) (by kernel_rfl) rfl ?_
  have hcs : V.agg c.cs = .agg [.int .i64 c.kind, .int .i64 c.n, .int .u64 c.h, .int .u64 c.x, .int .u64 c.y] := rfl
  rw [hcs, S.zpb]
  simp only [S.z3n]
  have A := AskAt.new ok M c
  have F0 : Fr [] h (h.new (.cells [.int .i64 c.kind, .int .i64 c.n, .int .u64 c.h, .int .u64 c.x, .int .u64 c.y] .rw)) := (Fr.refl ok).new _
  generalize (h.new (.cells [.int .i64 c.kind, .int .i64 c.n, .int .u64 c.h, .int .u64 c.x, .int .u64 c.y] .rw)) = g at A F0 ⊢
  generalize h.next = q at A ⊢
  have hcl := A.cl
  have n1 := zax A.M w c.h
  have n3 := zax A.M w c.y
  rw [if_pos ⟨w0, w1⟩] at n1 n3
  have hfl := zyf A.M (r.node w c.h) c.n
  have hnl : r.node w c.h < r.F.length := by rcases I.node w c.h with e | e <;> omega
  have hfe : r.field (r.node w c.h) c.n = r.fat (r.node w c.h) c.n := by
    unfold RSt.field
    rw [if_pos ⟨hn, hnl, hf.1, hf.2⟩]
  rw [hfe] at hfl
  simp only [z9, z8, z6, List.getElem?_cons_zero, List.getElem?_cons_succ, zf, V.beq, z17, za, Bool.and_self, decide_true, zh, hcl, n1, hfl, n3]
  exact Ev.some ⟨rfl, F0⟩
end
theorem zvf : ∀ {l : List Int} {m : List V} {i : Nat} (q : Int) (v : V), i < l.length → l.length = m.length → z02 (z1n l m) (i * 2) [.int .u64 q, v] = z1n (l.set i q) (m.set i v)
  | [], _, i, _, _, h, _ => by simp at h
  | _ :: _, [], i, _, _, _, h => by simp at h
  | a :: l, b :: m, 0, q, v, _, _ => by simp [z1n, z02]
  | a :: l, b :: m, i + 1, q, v, h1, h2 => by
    have ih := zvf (l := l) (m := m) (i := i) q v (by simpa using h1) (by simpa using h2)
    rw [show (i + 1) * 2 = i * 2 + 2 from by omega]
    simp only [z1n, List.set_cons_succ]
    rw [← ih]
    unfold z02
    simp only [List.length_cons, List.length_nil, List.take_succ_cons, List.cons_append]
    congr 3
theorem zug : ∀ {l : List Int} {m : List V} {i : Nat} (v : V), i < l.length → l.length = m.length → (z1n l m).set (i * 2 + 1) v = z1n l (m.set i v)
  | [], _, i, _, h, _ => by simp at h
  | _ :: _, [], i, _, _, h => by simp at h
  | a :: l, b :: m, 0, v, _, _ => by simp [z1n]
  | a :: l, b :: m, i + 1, v, h1, h2 => by
    have ih := zug (l := l) (m := m) (i := i) v (by simpa using h1) (by simpa using h2)
    rw [show (i + 1) * 2 + 1 = (i * 2 + 1) + 1 + 1 from by omega]
    simp only [z1n, List.set_cons_succ]
    rw [ih]
theorem zxh {l : List Nat} (h : l.Nodup) {i j : Nat} {a : Nat} (h1 : l[i]? = some a) (h2 : l[j]? = some a) : i = j := by
  have q1 := z03 h1
  have q2 := z03 h2
  rw [List.getElem?_eq_getElem q1] at h1
  rw [List.getElem?_eq_getElem q2] at h2
  exact (List.getElem_inj (xs := l) h (i := i) (j := j) (h₀ := q1) (h₁ := q2)).mp (by rw [Option.some.inj h1, Option.some.inj h2])
section
variable {k : Cfg} {B : MdB} {r : RSt}
theorem MdAt.nbm {g : Nat → Option Blk} (M : MdAt k g B r) {i : Nat} {v : V} (h : B.ns[i]? = some v) {b : Nat} (hb : b ∈ v.blk) : b ∉ B.l :=
  M.nn b (by unfold MdB.nb; exact List.mem_flatten.mpr ⟨v.blk, List.mem_map.mpr ⟨v, List.mem_of_getElem? h, rfl⟩, hb⟩)
theorem MdAt.setField {g : H} (ok : g.ok) (M : MdAt k g.get B r) {n i : Nat} {l : List Int} (hl : r.F[n]? = some l) (hi2 : i < l.length) (val : Int) :
    ∃ bF v bi kk, zd 1 B.xF (.int .i64 (n : Int)) = some (.ptr bF n) ∧ ldB (g.get bF) n = some v ∧ V.beq v v = true ∧ zd 1 v (.int .i64 (i : Int)) = some (.ptr bi i) ∧ stB (g.get bi) i [.int .i64 val] = some (.cells ((l.set i val).map (.int .i64)) kk) ∧ bi ∈ B.l ∧ bi < g.next ∧
      MdAt k (g.put bi (some (.cells ((l.set i val).map (.int .i64)) kk))).get B { r with F := r.F.modify n fun l => l.set i val } := by
  have hn := z03 hl
  obtain ⟨d1, d2, d3, d4, d5, d6, d7, d8, d9⟩ := M.dist
  obtain ⟨f1, f2⟩ := M.fl
  obtain ⟨v, hv⟩ : ∃ v, B.vs[n]? = some v := ⟨_, List.getElem?_eq_getElem (by omega)⟩
  obtain ⟨bi, hbi⟩ : ∃ b, B.bs[n]? = some b := ⟨_, List.getElem?_eq_getElem (by omega)⟩
  obtain ⟨c, kk, rfl, hb, hk, hc⟩ := M.fr n v bi l hv hbi hl
  have hbm := List.mem_of_getElem? hbi
  have hbl : bi ∈ B.l := by simp [MdB.l, hbm]
  have hgF := M.fo
  obtain ⟨bF, hx, hbF⟩ : ∃ bF, B.xF = .sl bF 0 B.vs.length (.op 1) ∧ g.get bF = some (.cells B.vs (.gr 1)) := by
    obtain ⟨hx, h0⟩ | ⟨bF, m, hx, hm, hb⟩ := hgF
    · rw [h0] at f1; simp at f1; omega
    · rw [Nat.mul_one] at hm; rw [hm]; exact ⟨bF, hx, hb⟩
  have ne : ∀ b, b ≠ bi → (g.put bi (some (.cells ((l.set i val).map (.int .i64)) kk))).get b = g.get b := fun b h => zj h
  refine ⟨bF, .sl bi 0 l.length c, bi, kk, ?_, ?_, zzd _ _ _ _, z28 hi2, ?_, hbl, ok.lt hb, ?_⟩
  · rw [hx]; exact z28 (by omega)
  · rw [hbF, z6, hv]; rfl
  · rw [zpk hb hk (by rw [List.length_map]; exact hi2) rfl, zms]
  · refine ⟨M.nd, M.nn, by rw [ne _ (fun e => d1 (by rw [e]; simp [hbm]))]; exact M.own, M.fo.congr fun b hb => ne b (fun e => d9 b hb (e ▸ hbm)), ⟨by rw [List.length_modify]; exact f1, by rw [List.length_modify]; exact f2⟩, fun j u b m h1 h2 h3 => ?_, by rw [ne _ (fun e => d2 (by rw [e]; simp [hbm]))]; exact M.ho, M.hl, fun j m' hm' => by rw [ne _ (fun e => d7 m' (List.mem_of_getElem? hm') (by rw [e]; simp [hbm]))]; exact M.hm j m' hm', by rw [ne _ (fun e => d3 (by rw [e]; simp [hbm]))]; exact M.wo, M.wl, fun j u m h1 h2 => (M.wr j u m h1 h2).congr fun b hb => ne b (fun e => M.nbm h1 hb (by rw [e]; exact hbl)), by rw [ne _ (fun e => d4 (by rw [e]; simp [hbm]))]; exact M.gv⟩
    rcases ztc h3 with ⟨e, m', h5, h6⟩ | ⟨e, h5⟩
    · subst e
      rw [hv] at h1; rw [hbi] at h2; rw [hl] at h5
      cases h1; cases h2; cases h5
      exact ⟨c, kk, by rw [h6, List.length_set], by rw [zs, h6], hk, by rw [h6, List.length_set]; exact hc⟩
    · obtain ⟨c', kk', e1, e2, e3⟩ := M.fr j u b m h1 h2 h5
      exact ⟨c', kk', e1, by rw [ne b (fun q => e (zxh d8 hbi (q ▸ h2)))]; exact e2, e3⟩
theorem MdAt.del {g : H} (ok : g.ok) (M : MdAt k g.get B r) (I : RIn k r) {w : Int} (w0 : 0 ≤ w) (w1 : w < k.c) (q : Int) :
    ∃ (i m : Nat), zd 1 (.sl B.bh 0 k.C (.op 1)) (.int .i64 w) = some (.ptr B.bh i) ∧ ldB (g.get B.bh) i = some (.map m) ∧ ∃ g', g.mapDel .int (.map m) (.int .u64 q) = some g' ∧ Fr B.l g g' ∧ MdAt k g'.get B { r with Hs := r.Hs.filter fun x => !(x.is w q) } := by
  obtain ⟨i, m, rfl, hm, i1, l1, e1⟩ := M.map w0 w1
  obtain ⟨d1, d2, d3, d4, d5, d6, d7, d8, d9⟩ := M.dist
  have hmm : m ∈ B.ms := List.mem_of_getElem? hm
  have hs : g.mapDel .int (.map m) (.int .u64 q) = some (g.put m (some (.map (z1v (r.Hs.filter fun x => !(x.is (i : Int) q)) i)))) := by
    simp only [H.mapDel, zm8, e1]
    rw [zsy _ _ _ I.nd]
  have ne : ∀ b, b ≠ m → (g.put m (some (.map (z1v (r.Hs.filter fun x => !(x.is (i : Int) q)) i)))).get b = g.get b := fun b h => zj h
  refine ⟨i, m, i1, l1, _, hs, (Fr.refl ok).put (.inl (by simp [MdB.l, hmm])) (ok.lt e1) _, M.nd, M.nn, by rw [ne _ (fun e => d1 (by rw [e]; simp [hmm]))]; exact M.own, M.fo.congr fun b hb => ne b (fun e => d7 m hmm (by rw [← e]; simp [hb])), M.fl, fun j v b l h1 h2 h3 => ?_, by rw [ne _ (fun e => d2 (by rw [e]; simp [hmm]))]; exact M.ho, M.hl, fun j m' hm' => ?_, by rw [ne _ (fun e => d3 (by rw [e]; simp [hmm]))]; exact M.wo, M.wl, fun j v l h1 h2 => (M.wr j v l h1 h2).congr fun b hb => ne b (fun e => M.nbm h1 hb (by rw [e]; simp [MdB.l, hmm])), by rw [ne _ (fun e => d4 (by rw [e]; simp [hmm]))]; exact M.gv⟩
  · obtain ⟨c, kk, e, hb, rr⟩ := M.fr j v b l h1 h2 h3
    exact ⟨c, kk, e, by rw [ne b (fun e => d7 m hmm (by rw [← e]; simp [List.mem_of_getElem? h2]))]; exact hb, rr⟩
  · by_cases hji : j = i
    · subst hji
      rw [hm] at hm'
      cases hm'
      exact zs _ _ _
    · have hne : m' ≠ m := fun e => hji (zxh d5 (e ▸ hm') hm)
      rw [ne m' hne, M.hm j m' hm']
      have : z1v (r.Hs.filter fun x => !(x.is (i : Int) q)) j = z1v r.Hs j := by
        unfold z1v
        rw [List.filter_filter]
        congr 1
        apply List.filter_congr
        intro x _
        by_cases hx : x.c = (j : Int)
        · have : x.is (i : Int) q = false := by unfold HoldR.is; rw [hx]; simp; omega
          rw [this]; simp
        · simp [hx]
      rw [this]
theorem MdAt.setWalk {g : H} (ok : g.ok) (M : MdAt k g.get B r) {i : Nat} (hi : i < k.C) (q : Int) {v : V} {l : List Int} (R : RowO .i64 g.get v l) (hv : ∀ b ∈ v.blk, b ∉ B.l) :
    stB (g.get B.bw) (i * 2) [.int .u64 q, v] = some (.cells (z1n (r.Wk.set i q) (B.ns.set i v)) B.kb) ∧ MdAt k (g.put B.bw (some (.cells (z1n (r.Wk.set i q) (B.ns.set i v)) B.kb))).get { B with ns := B.ns.set i v } { r with Wk := r.Wk.set i q, Cm := r.Cm.set i l } := by
  obtain ⟨d1, d2, d3, d4, d5, d6, d7, d8, d9⟩ := M.dist
  obtain ⟨w1, w2, w3⟩ := M.wl
  have hlen : (z1n r.Wk B.ns).length = k.C * 2 := by rw [zh5 (by omega), w1]
  have ov := R.slv.one
  constructor
  · have h1 : decide (B.kb = Bk.ro) = false := B.kb_ro
    have h2 : [V.int .u64 q, v].all V.one = true := by simp only [List.all_cons, List.all_nil, ov]; rfl
    have h3 : decide (i * 2 + [V.int .u64 q, v].length ≤ (z1n r.Wk B.ns).length) = true := decide_eq_true (by rw [hlen]; show i * 2 + 2 ≤ _; omega)
    rw [M.wo, z0e, h1, h2, h3]
    show some (Blk.cells (z02 _ _ _) _) = _
    rw [zvf q v (by omega) (by omega)]
  · have ne : ∀ b, b ≠ B.bw → (g.put B.bw (some (.cells (z1n (r.Wk.set i q) (B.ns.set i v)) B.kb))).get b = g.get b := fun b h => zj h
    have hbw : B.bw ∈ B.l := by simp [MdB.l]
    refine ⟨M.nd, ?_, by rw [ne _ (fun e => d1 (by rw [e]; simp))]; exact M.own, M.fo.congr fun b hb => ne b (fun e => d3 (by rw [← e]; simp [hb])), M.fl, fun j u b m h1 h2 h3 => ?_, by rw [ne _ (fun e => d2 (by rw [e]; simp))]; exact M.ho, M.hl, fun j m' hm' => by rw [ne _ (fun e => d3 (by rw [← e]; simp [List.mem_of_getElem? hm']))]; exact M.hm j m' hm', zs _ _ _, ⟨by rw [List.length_set]; exact w1, by rw [List.length_set]; exact w2, by rw [List.length_set]; exact w3⟩, fun j u m h1 h2 => ?_, by rw [ne _ (fun e => d3 (by rw [← e]; simp))]; exact M.gv⟩
    · intro b hb
      unfold MdB.nb at hb
      obtain ⟨lb, h1, h2⟩ := List.mem_flatten.mp hb
      obtain ⟨u, h3, rfl⟩ := List.mem_map.mp h1
      rcases zf0 h3 with rfl | h3
      · exact hv b h2
      · exact M.nn b (by unfold MdB.nb; exact List.mem_flatten.mpr ⟨u.blk, List.mem_map.mpr ⟨u, h3, rfl⟩, h2⟩)
    · obtain ⟨c, kk, e, hb, rr⟩ := M.fr j u b m h1 h2 h3
      exact ⟨c, kk, e, by rw [ne b (fun e => d3 (by rw [← e]; simp [List.mem_of_getElem? h2]))]; exact hb, rr⟩
    · rcases zcu h1 with ⟨rfl, rfl⟩ | ⟨hne, h1⟩
      · rcases zcu h2 with ⟨_, rfl⟩ | ⟨hne, _⟩
        · exact R.congr fun b hb => ne b (fun e => hv b hb (by rw [e]; exact hbw))
        · exact absurd rfl hne
      · rcases zcu h2 with ⟨e, _⟩ | ⟨_, h2⟩
        · exact absurd e hne
        · exact (M.wr j u m h1 h2).congr fun b hb => ne b (fun e => M.nbm h1 hb (by rw [e]; exact hbw))
theorem MdAt.give {g : H} (ok : g.ok) (M : MdAt k g.get B r) {q : Int} (hq : r.Gv.contains q = false) :
    ∃ g', g.mapSet .int (.map B.gm) (.int .u64 q) (.int .i64 1) = some g' ∧ Fr B.l g g' ∧ g'.next = g.next ∧ MdAt k g'.get B { r with Gv := r.Gv ++ [q] } := by
  obtain ⟨d1, d2, d3, d4, d5, d6, d7, d8, d9⟩ := M.dist
  have hs1 : g.mapSet .int (.map B.gm) (.int .u64 q) (.int .i64 1) = some (g.put B.gm (some (.map (z44 (r.Gv ++ [q]))))) := by
    simp only [H.mapSet, zm8, M.gv]
    rw [zlw (k := .int .u64 q) (.int .i64 1) (by rw [zfl, hq]; rfl)]
    unfold z44
    rw [List.map_append]; rfl
  have ne : ∀ b, b ≠ B.gm → (g.put B.gm (some (.map (z44 (r.Gv ++ [q]))))).get b = g.get b := fun b h => zj h
  refine ⟨_, hs1, (Fr.refl ok).put (.inl (by simp [MdB.l])) (ok.lt M.gv) _, rfl, M.nd, M.nn, by rw [ne _ (fun e => d1 (by rw [e]; simp))]; exact M.own, M.fo.congr fun b hb => ne b (fun e => d4 (by rw [← e]; simp [hb])), M.fl, fun j v b l h1 h2 h3 => ?_, by rw [ne _ (fun e => d2 (by rw [e]; simp))]; exact M.ho, M.hl, fun j m' hm' => by rw [ne _ (fun e => d4 (by rw [← e]; simp [List.mem_of_getElem? hm']))]; exact M.hm j m' hm', by rw [ne _ (fun e => d3 (by rw [e]; simp))]; exact M.wo, M.wl, fun j v l h1 h2 => (M.wr j v l h1 h2).congr fun b hb => ne b (fun e => M.nbm h1 hb (by rw [e]; simp [MdB.l])), zs _ _ _⟩
  obtain ⟨c, kk, e, hb, rr⟩ := M.fr j v b l h1 h2 h3
  exact ⟨c, kk, e, by rw [ne b (fun e => d4 (by rw [← e]; simp [List.mem_of_getElem? h2]))]; exact hb, rr⟩
theorem MdAt.newNode {g : H} (ok : g.ok) (M : MdAt k g.get B r) {n b1 : Nat} (hb1 : g.get b1 = some (.cells ((List.replicate n (-1)).map (.int .i64)) .rw)) (hn1 : b1 ∉ B.l) (hn2 : b1 ∉ B.nb) (hF : r.F.length ≤ 100000) :
    ∃ x' g2, (g.new (.cells [.sl b1 0 n (.ex n)] .rw)).append 1 24 B.xF (.sl g.next 0 1 (.ex 1)) = some (x', g2) ∧ g2.get B.b = g.get B.b ∧ x'.one = true ∧ x'.cells = [x'] ∧ B.b < g2.next ∧
      let g3 := g2.put B.b (some (.cells [.int .i64 k.s, .int .i64 k.a, .int .i64 k.c, .int .i64 k.hd, .int .i64 k.g, .int .i64 k.st, x', .sl B.bh 0 k.C (.op 1), .sl B.bw 0 k.C (B.cw k.C), .map B.gm] .rw))
      Fr B.l g g3 ∧ MdAt k g3.get { B with xF := x', vs := B.vs ++ [.sl b1 0 n (.ex n)], bs := B.bs ++ [b1] } { r with F := r.F ++ [List.replicate n (-1)] } ∧ ∀ b ∈ x'.blk, g.next ≤ b := by
  obtain ⟨d1, d2, d3, d4, d5, d6, d7, d8, d9⟩ := M.dist
  have Fa : Fr [] g (g.new (.cells [.sl b1 0 n (.ex n)] .rw)) := (Fr.refl ok).new _
  obtain ⟨f1, f2⟩ := M.fl
  obtain ⟨x', g2, e2, F2, G2, hx', hne⟩ := Grown.push Fa.ok (bytes := 24) (M.fo.fr ok Fa (by simp)) (ze g _) (e := 1) rfl rfl (by decide) ⟨by decide, by decide⟩ (by omega)
  have F02 : Fr B.xF.blk g g2 := (Fa.mono (by simp)).trans' F2
  have hxm : ∀ b ∈ B.xF.blk, b ∈ B.l := fun b hb => by simp [MdB.l, hb]
  have hxn : ∀ b ∈ x'.blk, g.next ≤ b := fun b hb => Nat.le_trans Fa.le (hx' b hb)
  have hbx : B.b ∉ B.xF.blk := fun q => d1 (by simp [q])
  have hbg : g2.get B.b = g.get B.b := F02.same _ (ok.lt M.own) hbx
  have hbl2 : B.b < g2.next := F02.lt (ok.lt M.own)
  have F23 : Fr [B.b] g2 (g2.put B.b (some (.cells [.int .i64 k.s, .int .i64 k.a, .int .i64 k.c, .int .i64 k.hd, .int .i64 k.g, .int .i64 k.st, x', .sl B.bh 0 k.C (.op 1), .sl B.bw 0 k.C (B.cw k.C), .map B.gm] .rw))) := (Fr.refl F2.ok).put (.inl (by simp)) hbl2 _
  have hb1l : b1 < g.next := ok.lt hb1
  have lt : ∀ b ∈ B.l, b < g.next := by
    intro b hb
    simp only [MdB.l, List.mem_cons, List.mem_append] at hb
    rcases hb with rfl | rfl | rfl | rfl | hb | hb | hb
    · exact ok.lt M.own
    · exact ok.lt M.ho
    · exact ok.lt M.wo
    · exact ok.lt M.gv
    · obtain ⟨i, hi⟩ := List.mem_iff_getElem?.mp hb
      exact ok.lt (M.hm i b hi)
    · exact M.fo.lt ok b hb
    · obtain ⟨i, hi⟩ := List.mem_iff_getElem?.mp hb
      have := z03 hi
      obtain ⟨v, hv⟩ : ∃ v, B.vs[i]? = some v := ⟨_, List.getElem?_eq_getElem (by omega)⟩
      obtain ⟨l, hl⟩ : ∃ l, r.F[i]? = some l := ⟨_, List.getElem?_eq_getElem (by omega)⟩
      obtain ⟨c, kk, _, hb, _⟩ := M.fr i v b l hv hi hl
      exact ok.lt hb
  have ne : ∀ b, b < g.next → b ≠ B.b → b ∉ B.xF.blk → (g2.put B.b (some (.cells [.int .i64 k.s, .int .i64 k.a, .int .i64 k.c, .int .i64 k.hd, .int .i64 k.g, .int .i64 k.st, x', .sl B.bh 0 k.C (.op 1), .sl B.bw 0 k.C (B.cw k.C), .map B.gm] .rw))).get b = g.get b := fun b h1 h2 h3 => by
    rw [zj h2, F02.same b h1 h3]
  have hb1b : b1 ≠ B.b := fun e => hn1 (by rw [e]; simp [MdB.l])
  have hb1x : b1 ∉ B.xF.blk := fun q => hn1 (hxm b1 q)
  refine ⟨x', g2, e2, hbg, G2.slv.one, G2.slv.cells, hbl2, ?_⟩
  show Fr B.l g (g2.put B.b (some (.cells [.int .i64 k.s, .int .i64 k.a, .int .i64 k.c, .int .i64 k.hd, .int .i64 k.g, .int .i64 k.st, x', .sl B.bh 0 k.C (.op 1), .sl B.bw 0 k.C (B.cw k.C), .map B.gm] .rw))) ∧ MdAt k (g2.put B.b (some (.cells [.int .i64 k.s, .int .i64 k.a, .int .i64 k.c, .int .i64 k.hd, .int .i64 k.g, .int .i64 k.st, x', .sl B.bh 0 k.C (.op 1), .sl B.bw 0 k.C (B.cw k.C), .map B.gm] .rw))).get { B with xF := x', vs := B.vs ++ [.sl b1 0 n (.ex n)], bs := B.bs ++ [b1] } { r with F := r.F ++ [List.replicate n (-1)] } ∧ _
  refine ⟨(F02.mono (fun b hb => .inl (hxm b hb))).trans F23 (fun b hb => .inl (by simp only [List.mem_singleton] at hb; rw [hb]; simp [MdB.l])), ?_, hxn⟩
  have nxl : ∀ b ∈ x'.blk, b ∉ B.l := fun b hb q => by have := hxn b hb; have := lt b q; omega
  -- the one block of a row that grew
  have hx1 : x'.blk.Nodup := by
    rcases G2 with ⟨e, _⟩ | ⟨b, n', e, _⟩
    · rw [e]; simp [V.blk]
    · rw [e]; simp [V.blk]
  have key : ∀ b, b ∈ (x'.blk ++ (B.bs ++ [b1])) → b ∈ x'.blk ∨ b ∈ B.bs ∨ b = b1 := fun b hb => by
    simpa [List.mem_append] using hb
  have notIn : ∀ b, b ∈ B.l → b ∉ B.bs → b ∉ x'.blk ++ (B.bs ++ [b1]) := fun b h1 h2 q => by
    rcases key b q with q | q | q
    · exact nxl b q h1
    · exact h2 q
    · exact hn1 (q ▸ h1)
  refine ⟨?_, ?_, zs _ _ _, ?_, ⟨by rw [List.length_append, List.length_append, f1]; rfl, by rw [List.length_append, List.length_append, f2]; rfl⟩, ?_, ?_, M.hl, ?_, ?_, M.wl, ?_, ?_⟩
  · show (B.b :: B.bh :: B.bw :: B.gm :: (B.ms ++ (x'.blk ++ (B.bs ++ [b1])))).Nodup
    have mb : B.b ∈ B.l := by simp [MdB.l]
    have mh : B.bh ∈ B.l := by simp [MdB.l]
    have mw : B.bw ∈ B.l := by simp [MdB.l]
    have mg : B.gm ∈ B.l := by simp [MdB.l]
    have h1 : B.b ∉ x'.blk ++ (B.bs ++ [b1]) := notIn _ mb fun q => d1 (by simp [q])
    have h2 : B.bh ∉ x'.blk ++ (B.bs ++ [b1]) := notIn _ mh fun q => d2 (by simp [q])
    have h3 : B.bw ∉ x'.blk ++ (B.bs ++ [b1]) := notIn _ mw fun q => d3 (by simp [q])
    have h4 : B.gm ∉ x'.blk ++ (B.bs ++ [b1]) := notIn _ mg fun q => d4 (by simp [q])
    rw [List.nodup_cons, List.nodup_cons, List.nodup_cons, List.nodup_cons, List.nodup_append, List.nodup_append, List.nodup_append]
    refine ⟨?_, ?_, ?_, ?_, d5, ⟨hx1, ⟨d8, by simp, ?_⟩, ?_⟩, ?_⟩
    · intro q
      rcases List.mem_cons.mp q with q | q
      · exact d1 (by rw [q]; simp)
      rcases List.mem_cons.mp q with q | q
      · exact d1 (by rw [q]; simp)
      rcases List.mem_cons.mp q with q | q
      · exact d1 (by rw [q]; simp)
      rcases List.mem_append.mp q with q | q
      · exact d1 (by simp [q])
      · exact h1 q
    · intro q
      rcases List.mem_cons.mp q with q | q
      · exact d2 (by rw [q]; simp)
      rcases List.mem_cons.mp q with q | q
      · exact d2 (by rw [q]; simp)
      rcases List.mem_append.mp q with q | q
      · exact d2 (by simp [q])
      · exact h2 q
    · intro q
      rcases List.mem_cons.mp q with q | q
      · exact d3 (by rw [q]; simp)
      rcases List.mem_append.mp q with q | q
      · exact d3 (by simp [q])
      · exact h3 q
    · intro q
      rcases List.mem_append.mp q with q | q
      · exact d4 (by simp [q])
      · exact h4 q
    · intro u hu v hv e
      simp only [List.mem_singleton] at hv
      exact hn1 (by rw [← hv, ← e]; simp [MdB.l, hu])
    · intro u hu v hv e
      have : v ∈ B.bs ∨ v = b1 := by simpa using hv
      rcases this with q | q
      · exact nxl u hu (by rw [e]; simp [MdB.l, q])
      · have h1 := hxn u hu
        rw [e, q] at h1; omega
    · intro u hu v hv e
      exact notIn u (by simp [MdB.l, hu]) (fun q => d7 u hu (by simp [q])) (by rw [e]; exact hv)
  · intro b hb q
    have hb' : b ∈ B.nb := hb
    have q' : b ∈ B.b :: B.bh :: B.bw :: B.gm :: (B.ms ++ (x'.blk ++ (B.bs ++ [b1]))) := q
    have hblt : b < g.next := by
      unfold MdB.nb at hb'
      obtain ⟨lb, h1, h2⟩ := List.mem_flatten.mp hb'
      obtain ⟨u, h3, rfl⟩ := List.mem_map.mp h1
      obtain ⟨i, hi⟩ := List.mem_iff_getElem?.mp h3
      have := z03 hi
      obtain ⟨w1, w2, w3⟩ := M.wl
      obtain ⟨l, hl⟩ : ∃ l, r.Cm[i]? = some l := ⟨_, List.getElem?_eq_getElem (by omega)⟩
      exact (M.wr i u l hi hl).lt ok b h2
    have hno := M.nn b hb'
    simp only [List.mem_cons, List.mem_append, List.not_mem_nil, or_false] at q'
    rcases q' with q | q | q | q | q | q | q | q
    · exact hno (by rw [q]; simp [MdB.l])
    · exact hno (by rw [q]; simp [MdB.l])
    · exact hno (by rw [q]; simp [MdB.l])
    · exact hno (by rw [q]; simp [MdB.l])
    · exact hno (by simp [MdB.l, q])
    · have := hxn b q; omega
    · exact hno (by simp [MdB.l, q])
    · exact hn2 (q ▸ hb')
  · exact G2.congr fun b hb => zj (fun e => nxl b hb (by rw [e]; simp [MdB.l]))
  · intro i v b l h1 h2 h3
    have h1' : (B.vs ++ [V.sl b1 0 n (.ex n)])[i]? = some v := h1
    have h2' : (B.bs ++ [b1])[i]? = some b := h2
    have h3' : (r.F ++ [List.replicate n (-1 : Int)])[i]? = some l := h3
    by_cases hi : i < r.F.length
    · rw [List.getElem?_append_left (by omega)] at h1' h2' h3'
      obtain ⟨c, kk, e, hb, rr⟩ := M.fr i v b l h1' h2' h3'
      have hbm := List.mem_of_getElem? h2'
      exact ⟨c, kk, e, by rw [ne b (ok.lt hb) (fun e => d1 (by rw [← e]; simp [hbm])) (fun q => d9 b q hbm)]; exact hb, rr⟩
    · have hie : i = r.F.length := by
        have := z03 h3'
        rw [List.length_append, List.length_singleton] at this
        omega
      subst hie
      rw [← f1, List.getElem?_append_right (Nat.le_refl _), Nat.sub_self] at h1'
      rw [← f2, List.getElem?_append_right (Nat.le_refl _), Nat.sub_self] at h2'
      rw [List.getElem?_append_right (Nat.le_refl _), Nat.sub_self] at h3'
      cases h1'; cases h2'; cases h3'
      exact ⟨.ex n, .rw, by rw [List.length_replicate], by rw [ne b1 hb1l hb1b hb1x]; exact hb1, by simp, .inr ⟨n, rfl, by rw [List.length_replicate]; exact Nat.le_refl _⟩⟩
  · rw [ne _ (lt _ (by simp [MdB.l])) (fun e => d1 (by rw [← e]; simp)) (fun q => d2 (by simp [q]))]; exact M.ho
  · intro i m hm
    have hmm : m ∈ B.ms := List.mem_of_getElem? hm
    rw [ne _ (lt _ (by simp [MdB.l, hmm])) (fun e => d1 (by rw [← e]; simp [hmm])) (fun q => d7 m hmm (by simp [q]))]
    exact M.hm i m hm
  · rw [ne _ (lt _ (by simp [MdB.l])) (fun e => d1 (by rw [← e]; simp)) (fun q => d3 (by simp [q]))]; exact M.wo
  · intro i v l h1 h2
    have R := M.wr i v l h1 h2
    exact R.congr fun b hb => ne b (R.lt ok b hb) (fun e => M.nbm h1 hb (by rw [e]; simp [MdB.l])) (fun q => M.nbm h1 hb (hxm b q))
  · rw [ne _ (lt _ (by simp [MdB.l])) (fun e => d1 (by rw [← e]; simp)) (fun q => d4 (by simp [q]))]; exact M.gv
end
structure MdB.ext (B B' : MdB) (h : H) : Prop where
  b : B'.b = B.b
  l : ∀ x ∈ B'.l, x ∈ B.l ∨ h.next ≤ x
  n : ∀ x ∈ B'.nb, x ∈ B.nb ∨ h.next ≤ x
theorem MdB.ext.refl (B : MdB) (h : H) : B.ext B h := ⟨rfl, fun _ q => .inl q, fun _ q => .inl q⟩
theorem MdB.ext.up {B B' : MdB} {h h' : H} (E : B.ext B' h') (le : h.next ≤ h'.next) : B.ext B' h := ⟨E.b, fun x q => (E.l x q).imp id fun w => by omega, fun x q => (E.n x q).imp id fun w => by omega⟩
section
variable {k : Cfg} {B : MdB} {r : RSt} {c : CallR} {a : AnsR}
theorem MdAt.lt {g : H} (M : MdAt k g.get B r) (ok : g.ok) : ∀ b ∈ B.l, b < g.next := by
  intro b hb
  obtain ⟨f1, f2⟩ := M.fl
  simp only [MdB.l, List.mem_cons, List.mem_append] at hb
  rcases hb with rfl | rfl | rfl | rfl | hb | hb | hb
  · exact ok.lt M.own
  · exact ok.lt M.ho
  · exact ok.lt M.wo
  · exact ok.lt M.gv
  · obtain ⟨i, hi⟩ := List.mem_iff_getElem?.mp hb
    exact ok.lt (M.hm i b hi)
  · exact M.fo.lt ok b hb
  · obtain ⟨i, hi⟩ := List.mem_iff_getElem?.mp hb
    have := z03 hi
    obtain ⟨v, hv⟩ : ∃ v, B.vs[i]? = some v := ⟨_, List.getElem?_eq_getElem (by omega)⟩
    obtain ⟨l, hl⟩ : ∃ l, r.F[i]? = some l := ⟨_, List.getElem?_eq_getElem (by omega)⟩
    obtain ⟨c, kk, _, hb, _⟩ := M.fr i v b l hv hi hl
    exact ok.lt hb
theorem MdAt.ltn {g : H} (M : MdAt k g.get B r) (ok : g.ok) : ∀ b ∈ B.nb, b < g.next := by
  intro b hb
  unfold MdB.nb at hb
  obtain ⟨lb, h1, h2⟩ := List.mem_flatten.mp hb
  obtain ⟨u, h3, rfl⟩ := List.mem_map.mp h1
  obtain ⟨i, hi⟩ := List.mem_iff_getElem?.mp h3
  have := z03 hi
  obtain ⟨w1, w2, w3⟩ := M.wl
  obtain ⟨l, hl⟩ : ∃ l, r.Cm[i]? = some l := ⟨_, List.getElem?_eq_getElem (by omega)⟩
  exact (M.wr i u l hi hl).lt ok b h2
structure DnAt (k : Cfg) (B : MdB) (r : RSt) (c : CallR) (a : AnsR) (g : H) (q pa : Nat) : Prop where
  A : AskAt k B r c g q
  an : g.get pa = some (.cells [.int .i64 a.err, .int .u64 a.h, .bool a.yes] .rw)
  no : q ∉ B.l ∧ pa ∉ B.l
theorem DnAt.fr {g g' : H} {q pa : Nat} (D : DnAt k B r c a g q pa) (F : Fr [] g g') : DnAt k B r c a g' q pa := ⟨D.A.fr F, F.get D.A.ok D.an (by simp), D.no⟩
def SwM (k : Cfg) (B : MdB) (g : H) (r' : RSt) (z : AX × List V × H) : Prop := z.1 = .normal ∧ z.2.1 = S.z0a ∧ Fr B.l g z.2.2 ∧ ∃ B', MdAt k z.2.2.get B' r' ∧ B.ext B' g
theorem z050 {g : H} {q pa : Nat} (D : DnAt k B r c a g q pa) (I : RIn k r) (hF : r.F.length ≤ 100000) (hk : c.kind = 1) {w nh : Int} (w0 : 0 ≤ w) (w1 : w < k.c) {n : Nat} (hcn : c.n = (n : Int)) (hn : n ≤ 8) (hf : r.Gv.contains a.h = false) (gv ys : Bool) :
    Ev (S.z06 W (.ptr B.b 0) w (.ptr q 0) (.ptr pa 0) nh gv ys g) (SwM k B g (z09 r w c a)) := by
  have hd : z09 r w c a = ({ r with F := r.F ++ [List.replicate n (-1)] } : RSt).gives w a.h r.F.length := by
    unfold z09; rw [hk, hcn]; simp
  rw [hd]
  have ok := D.A.ok
  have M := D.A.M
  have hcl := D.A.cl
  rw [hk, hcn] at hcl
  have l6 := M.l6
  have F8 : Fr [] g (g.new (.cells [.int .i64 (-1)] .rw)) := (Fr.refl ok).new _
  obtain ⟨⟨v, g9⟩, e9, F9, rfl, hb9⟩ := z00o F8.ok (ze g _) hn
  dsimp only at F9 hb9
  have hn8 : (g.new (.cells [.int .i64 (-1)] .rw)).next = g.next + 1 := rfl
  rw [hn8] at e9 hb9
  have F09 : Fr [] g g9 := F8.trans' F9
  have M9 := M.fr0 ok F09
  have l69 := M9.l6
  have hlt := M.lt ok
  have hltn := M.ltn ok
  obtain ⟨x', g2, e2, hbg, ox, ox2, hbl, F3, M3, hx⟩ := M9.newNode F09.ok hb9 (fun q => by have := hlt _ q; omega) (fun q => by have := hltn _ q; omega) hF
  have oxF := M.fo.slv.beq
  have own9 := M9.own
  have hbown : g2.get B.b = some (.cells [.int .i64 k.s, .int .i64 k.a, .int .i64 k.c, .int .i64 k.hd, .int .i64 k.g, .int .i64 k.st, B.xF, .sl B.bh 0 k.C (.op 1), .sl B.bw 0 k.C (B.cw k.C), .map B.gm] .rw) := hbg.trans own9
  have oF1 := M.fo.slv.one
  have I1 := I.newF n
  have hpa3 : ((g2.put B.b (some (.cells [.int .i64 k.s, .int .i64 k.a, .int .i64 k.c, .int .i64 k.hd, .int .i64 k.g, .int .i64 k.st, x', .sl B.bh 0 k.C (.op 1), .sl B.bw 0 k.C (B.cw k.C), .map B.gm] .rw)))).get pa = some (.cells [.int .i64 a.err, .int .u64 a.h, .bool a.yes] .rw) := F3.get F09.ok (F09.get ok D.an (by simp)) D.no.2
  have npb : ¬ pa = B.b := fun e => D.no.2 (by rw [e]; simp [MdB.l])
  have hpa2 : g2.get pa = some (.cells [.int .i64 a.err, .int .u64 a.h, .bool a.yes] .rw) := by rw [zj npb] at hpa3; exact hpa3
  have hxl : lenSl x' = some (r.F.length + 1) := by
    have := M3.rows.len
    have h2 : (r.F ++ [List.replicate n (-1 : Int)]).length = r.F.length + 1 := by rw [List.length_append]; rfl
    have h3 : lenSl x' = some (r.F ++ [List.replicate n (-1 : Int)]).length := this
    rw [h2] at h3; exact h3
  have wl : wr .i64 (((r.F.length + 1 : Nat) : Int) - 1) = ((r.F.length : Nat) : Int) := by
    rw [wr64 (by omega) (by omega)]; omega
  obtain ⟨g4, e4, F4, M4, hn4⟩ := zp7 F3.ok M3 I1 (w := w) (q := a.h) (n := (r.F.length : Nat)) w0 w1 hf
  dsimp only at e4
  have d1 : decide ((1 : Int) = 1) = true := rfl
  simp only [S.z06, zi, z7, z9, Option.map_some, z8, zy, get_put', z6, z0e, List.getElem?_cons_zero, List.getElem?_cons_succ, Nat.zero_add, Nat.add_zero, Nat.reduceAdd, Nat.reduceLeDiff, Int.reduceNeg, zf, z17, za, List.length_cons, List.length_nil, Nat.beq_refl, List.all_cons, List.all_nil, Bool.and_true, Bool.not_true, Bool.or_self, Bool.and_self, decide_true, decide_false, if_true, if_false, z02, List.take_succ_cons, List.take_zero, List.drop_succ_cons, List.drop_zero, List.cons_append, List.nil_append, reduceCtorEq, fill, repl, opd, zd5, zh, zi, hcl, l6, e9, l69, oxF, e2, hbown, ox, ox2, npb, hpa2, hxl, wl, e4]
  have F4' : Fr B.l g g4 := by
    refine ((F09.mono (by simp)).trans F3 (fun b hb => .inl hb)).trans F4 (fun b hb => ?_)
    have hb' : b ∈ B.b :: B.bh :: B.bw :: B.gm :: (B.ms ++ (x'.blk ++ (B.bs ++ [g.next + 1]))) := hb
    simp only [List.mem_cons, List.mem_append, List.not_mem_nil, or_false] at hb'
    have hge := F09.le
    rcases hb' with e | e | e | e | e | e | e | e
    · exact .inl (by rw [e]; simp [MdB.l])
    · exact .inl (by rw [e]; simp [MdB.l])
    · exact .inl (by rw [e]; simp [MdB.l])
    · exact .inl (by rw [e]; simp [MdB.l])
    · exact .inl (by simp [MdB.l, e])
    · exact .inr (by have := hx b e; omega)
    · exact .inl (by simp [MdB.l, e])
    · exact .inr (by omega)
  refine Ev.some ⟨rfl, rfl, F4', _, M4, rfl, fun b hb => ?_, fun b hb => .inl hb⟩
  have hb' : b ∈ B.b :: B.bh :: B.bw :: B.gm :: (B.ms ++ (x'.blk ++ (B.bs ++ [g.next + 1]))) := hb
  simp only [List.mem_cons, List.mem_append, List.not_mem_nil, or_false] at hb'
  have hge := F09.le
  rcases hb' with e | e | e | e | e | e | e | e
  · exact .inl (by rw [e]; simp [MdB.l])
  · exact .inl (by rw [e]; simp [MdB.l])
  · exact .inl (by rw [e]; simp [MdB.l])
  · exact .inl (by rw [e]; simp [MdB.l])
  · exact .inl (by simp [MdB.l, e])
  · exact .inr (by have := hx b e; omega)
  · exact .inl (by simp [MdB.l, e])
  · exact .inr (by omega)
theorem SwM.same {g : H} (M : MdAt k g.get B r) (ok : g.ok) : SwM k B g r (.normal, S.z0a, g) := ⟨rfl, rfl, .refl ok, B, M, .refl B g⟩
theorem z054 {g : H} {q pa : Nat} (D : DnAt k B r c a g q pa) (I : RIn k r) {w : Int} (w0 : 0 ≤ w) (w1 : w < k.c) {n i : Nat} {l : List Int} (hl : r.F[n]? = some l) (hi : i < l.length) (hn : r.node w c.h = (n : Int)) (hcn : c.n = (i : Int)) (gv ys : Bool) (hg : gv = z1i r w c) (hy : ys = yesR r w c) (hf : z1i r w c = true → r.Gv.contains a.h = false) (hk : c.kind = 2 ∨ c.kind = 3 ∨ c.kind = 4 ∨ c.kind = 5) :
    Ev (S.z06 W (.ptr B.b 0) w (.ptr q 0) (.ptr pa 0) (r.node w c.h) gv ys g) (SwM k B g (z09 r w c a)) := by
  have ok := D.A.ok
  have M := D.A.M
  have hcl := D.A.cl
  rw [hcn] at hcl
  have l6 := M.l6
  have han := D.an
  have nx := zax M w c.x
  rw [if_pos ⟨w0, w1⟩] at nx
  have oxF := M.fo.slv.beq
  rw [hn]
  rcases hk with hk | hk | hk | hk
  · rw [hk] at hcl
    cases hgg : gv with
    | false =>
      have hd : z09 r w c a = r := by
        unfold z09
        rw [← hg, hgg, hk]; simp
      rw [hd]
      simp only [S.z06, zi, z7, z9, z8, zy, z6, List.getElem?_cons_zero, List.getElem?_cons_succ, Nat.zero_add, Nat.add_zero, Nat.reduceAdd, Nat.reduceLeDiff, Int.reduceEq, Int.reduceNeg, zf, za, List.length_cons, List.length_nil, Bool.and_true, decide_true, decide_false, z02, List.take_zero, List.cons_append, List.nil_append, fill, repl, opd, zh, hcl]
      exact Ev.some (SwM.same M ok)
    | true =>
      have hd : z09 r w c a = r.gives w a.h (r.fat (r.node w c.h) c.n) := by
        unfold z09
        rw [← hg, hgg, hk]; simp
      have hfl : r.fl (r.node w c.h) = l := by
        unfold RSt.fl; rw [hn, Int.toNat_natCast, hl]; rfl
      obtain ⟨f, hf'⟩ : ∃ f, l[i]? = some f := ⟨_, List.getElem?_eq_getElem hi⟩
      have hfat : r.fat (r.node w c.h) c.n = f := by
        unfold RSt.fat; rw [hfl, hcn, Int.toNat_natCast, hf']; rfl
      rw [hd, hfat]
      obtain ⟨b, y, ix, ly, Y⟩ := M.rows.at hl
      obtain ⟨b2, o2, i2, l2⟩ := Y.at hf'
      obtain ⟨g', e1, F1, M1, hn1⟩ := zp7 ok M I (w := w) (q := a.h) (n := f) w0 w1 (hf (by rw [← hg, hgg]))
      simp only [S.z06, zi, z7, z9, z8, zy, z6, List.getElem?_cons_zero, List.getElem?_cons_succ, Nat.zero_add, Nat.add_zero, Nat.reduceAdd, Nat.reduceLeDiff, Int.reduceEq, Int.reduceNeg, zf, z2b, za, List.length_cons, List.length_nil, Nat.beq_refl, Bool.and_true, decide_true, decide_false, z02, List.take_zero, List.cons_append, List.nil_append, fill, repl, opd, zh, zi, hcl, han, l6, ix, ly, i2, l2, e1]
      exact Ev.some ⟨rfl, rfl, F1, B, M1, .refl B g⟩
  · rw [hk] at hcl
    have hd : z09 r w c a = { r with F := r.F.modify n fun l => l.set i (r.node w c.x) } := by
      unfold z09 RSt.setF
      rw [hk, hn, hcn]; simp
    rw [hd]
    obtain ⟨bF, v, bi, kk, i1, l1, vb, i2, s2, hm, hlt, M1⟩ := M.setField ok hl hi (r.node w c.x)
    simp only [S.z06, zi, z7, z9, Option.map_some, z8, zy, z6, List.getElem?_cons_zero, List.getElem?_cons_succ, Nat.zero_add, Nat.add_zero, Nat.reduceAdd, Nat.reduceLeDiff, Int.reduceEq, Int.reduceNeg, zf, z2b, V.beq, z17, za, List.length_cons, List.length_nil, Nat.beq_refl, Bool.and_true, Bool.and_self, decide_true, decide_false, z02, List.take_zero, List.cons_append, List.nil_append, fill, repl, opd, zh, zi, hcl, l6, i1, l1, nx, vb, oxF, i2, s2]
    exact Ev.some ⟨rfl, rfl, (Fr.refl ok).put (.inl hm) hlt _, B, M1, .refl B g⟩
  · rw [hk] at hcl
    have hd : z09 r w c a = { r with F := r.F.modify n fun l => l.set i (-1) } := by
      unfold z09 RSt.setF
      rw [hk, hn, hcn]; simp
    rw [hd]
    obtain ⟨bF, v, bi, kk, i1, l1, vb, i2, s2, hm, hlt, M1⟩ := M.setField ok hl hi (-1)
    simp only [S.z06, zi, z7, z9, Option.map_some, z8, zy, z6, List.getElem?_cons_zero, List.getElem?_cons_succ, Nat.zero_add, Nat.add_zero, Nat.reduceAdd, Nat.reduceLeDiff, Int.reduceEq, Int.reduceNeg, zf, z2b, za, List.length_cons, List.length_nil, Nat.beq_refl, Bool.and_true, decide_true, decide_false, z02, List.take_zero, List.cons_append, List.nil_append, fill, repl, opd, zh, zi, hcl, l6, i1, l1, i2, s2]
    exact Ev.some ⟨rfl, rfl, (Fr.refl ok).put (.inl hm) hlt _, B, M1, .refl B g⟩
  · rw [hk] at hcl
    cases hyy : ys with
    | false =>
      have hd : z09 r w c a = r := by
        unfold z09
        rw [← hy, hyy, hk]; simp
      rw [hd]
      simp only [S.z06, zi, z7, z9, z8, zy, z6, List.getElem?_cons_zero, List.getElem?_cons_succ, Nat.zero_add, Nat.add_zero, Nat.reduceAdd, Nat.reduceLeDiff, Int.reduceEq, Int.reduceNeg, zf, za, List.length_cons, List.length_nil, Bool.and_true, decide_true, decide_false, z02, List.take_zero, List.cons_append, List.nil_append, fill, repl, opd, zh, hcl]
      exact Ev.some (SwM.same M ok)
    | true =>
      have hd : z09 r w c a = { r with F := r.F.modify n fun l => l.set i (r.node w c.x) } := by
        unfold z09 RSt.setF
        rw [← hy, hyy, hk, hn, hcn]; simp
      rw [hd]
      obtain ⟨bF, v, bi, kk, i1, l1, vb, i2, s2, hm, hlt, M1⟩ := M.setField ok hl hi (r.node w c.x)
      simp only [S.z06, zi, z7, z9, Option.map_some, z8, zy, z6, List.getElem?_cons_zero, List.getElem?_cons_succ, Nat.zero_add, Nat.add_zero, Nat.reduceAdd, Nat.reduceLeDiff, Int.reduceEq, Int.reduceNeg, zf, z2b, V.beq, z17, za, List.length_cons, List.length_nil, Nat.beq_refl, Bool.and_true, Bool.and_self, decide_true, decide_false, z02, List.take_zero, List.cons_append, List.nil_append, fill, repl, opd, zh, zi, hcl, l6, i1, l1, nx, vb, oxF, i2, s2]
      exact Ev.some ⟨rfl, rfl, (Fr.refl ok).put (.inl hm) hlt _, B, M1, .refl B g⟩
theorem zu9 {r r' : RSt} (h : r.F = r'.F) : ∀ (d i : Nat) (l : List Int), r.reach d i l = r'.reach d i l
  | 0, _, _ => rfl
  | d + 1, i, l => by
    have hfl : ∀ n, r.fl n = r'.fl n := fun n => by unfold RSt.fl; rw [h]
    rw [RSt.reach, RSt.reach]
    cases l[i]? with
    | none => rfl
    | some n =>
      have : r.nexts l (r.fl n) = r'.nexts l (r'.fl n) := by rw [hfl]; rfl
      simp only [this, zu9 h d]
theorem zxw {r r' : RSt} (h : r.F = r'.F) (n : Int) : r.reached n = r'.reached n := by
  unfold RSt.reached
  rw [h, zu9 h]
theorem z02c {e : Nat} {x : V} {lo hi mx : Option V} {b o n : Nat} {c : Cap} (h : z4f e x lo hi mx = some (.sl b o n c)) : b ∈ x.blk := by
  unfold z4f at h
  cases x with
  | sl b' o' n' c' =>
    simp only [V.blk, List.mem_singleton]
    cases c' <;> simp only at h <;> (repeat' split at h) <;> simp_all
  | nilsl => simp only at h; (repeat' split at h) <;> simp_all
  | _ => simp at h
theorem zyo {B : MdB} {i : Nat} {v : V} {x : Nat} (h : x ∈ ({ B with ns := B.ns.set i v } : MdB).nb) : x ∈ B.nb ∨ x ∈ v.blk := by
  unfold MdB.nb at h ⊢
  obtain ⟨lb, h1, h2⟩ := List.mem_flatten.mp h
  obtain ⟨u, h3, rfl⟩ := List.mem_map.mp h1
  rcases zf0 h3 with rfl | h3
  · exact .inr h2
  · exact .inl (List.mem_flatten.mpr ⟨u.blk, List.mem_map.mpr ⟨u, h3, rfl⟩, h2⟩)
theorem z05l {g : H} {q pa : Nat} (D : DnAt k B r c a g q pa) (I : RIn k r) (B1 : r.small) {w : Int} (w0 : 0 ≤ w) (w1 : w < k.c) (gv ys : Bool) (hn : c.kind = 8 → ∃ n : Nat, r.node w c.h = (n : Int) ∧ n < r.F.length) (hf : c.kind = 8 ∨ c.kind = 9 → r.Gv.contains a.h = false) (h9 : c.kind = 9 → r.come w ≠ []) (hu : U64 a.h) (hk : 6 ≤ c.kind ∧ c.kind ≤ 10) :
    Ev (S.z06 W (.ptr B.b 0) w (.ptr q 0) (.ptr pa 0) (r.node w c.h) gv ys g) (SwM k B g (z09 r w c a)) := by
  have ok := D.A.ok
  have M := D.A.M
  have hcl := D.A.cl
  have han := D.an
  have l7 := M.l7
  have l8 := M.l8
  have l9 := M.l9
  obtain ⟨i, v, hwi, hv, hW, hCm, iw, lw, lv, R⟩ := M.walk w0 w1
  have hi : i < k.C := by have := z03 hW; have := M.wl.1; omega
  have hbw : B.bw ∈ B.l := by simp [MdB.l]
  by_cases k6 : c.kind = 6
  · rw [k6] at hcl
    have hd : z09 r w c a = { r with Hs := r.Hs.filter fun x => !(x.is w c.h) } := by unfold z09; rw [k6]; simp
    rw [hd]
    obtain ⟨j, m, i1, l1, g', e1, F1, M1⟩ := M.del ok I w0 w1 c.h
    simp only [S.z06, zi, z7, z9, z8, zy, z6, List.getElem?_cons_zero, List.getElem?_cons_succ, Nat.zero_add, Nat.add_zero, Nat.reduceAdd, Nat.reduceLeDiff, Int.reduceEq, Int.reduceNeg, zf, za, List.length_cons, List.length_nil, Bool.and_true, decide_true, decide_false, z02, List.take_zero, List.cons_append, List.nil_append, fill, repl, opd, zh, zi, hcl, l7, i1, l1, e1]
    exact Ev.some ⟨rfl, rfl, F1, B, M1, .refl B g⟩
  by_cases k7 : c.kind = 7
  · rw [k7] at hcl
    have hd : z09 r w c a = r := by unfold z09; rw [k7]; simp
    rw [hd]
    simp only [S.z06, zi, z7, z9, z8, zy, z6, List.getElem?_cons_zero, List.getElem?_cons_succ, Nat.zero_add, Nat.add_zero, Nat.reduceAdd, Nat.reduceLeDiff, Int.reduceEq, Int.reduceNeg, zf, za, List.length_cons, List.length_nil, Bool.and_true, decide_true, decide_false, z02, List.take_zero, List.cons_append, List.nil_append, fill, repl, opd, zh, hcl]
    exact Ev.some (SwM.same M ok)
  by_cases k8 : c.kind = 8
  · rw [k8] at hcl
    obtain ⟨n, en, hnl⟩ := hn k8
    have hd : z09 r w c a = { r with Gv := r.Gv ++ [a.h], Wk := r.Wk.set i a.h, Cm := r.Cm.set i (r.reached (n : Int)) } := by
      unfold z09; rw [k8, en, hwi]; simp
    rw [hd, en]
    obtain ⟨g1, e1, F1, hn1, M1⟩ := M.give ok (hf (.inl k8))
    have l81 := M1.l8
    have han1 := F1.get ok han D.no.2
    have I1 : RIn k { r with Gv := r.Gv ++ [a.h] } := ⟨I.wk, I.cm, I.f, fun x hx => by have := I.hs x hx; exact ⟨this.1, this.2.1, List.mem_append_left _ this.2.2.1, this.2.2.2⟩, I.nd, I.come, I.wu, fun x hx => by
      rcases List.mem_append.mp hx with h | h
      · exact I.gu x h
      · simp only [List.mem_singleton] at h; subst h; exact hu⟩
    obtain ⟨⟨u, g2⟩, e2, F2, R2, hub⟩ := zwq (k := k) (B := B) (r := { r with Gv := r.Gv ++ [a.h] }) F1.ok M1 I1 B1.f B1.l hnl
    dsimp only at F2 R2 hub
    have erc : ({ r with Gv := r.Gv ++ [a.h] } : RSt).reached (n : Int) = r.reached (n : Int) := zxw (r := { r with Gv := r.Gv ++ [a.h] }) (r' := r) rfl _
    rw [erc] at R2
    have M2 := M1.fr0 F1.ok F2
    have l82 := M2.l8
    have han2 := F2.get F1.ok han1 (by simp)
    have hlt := M1.lt F1.ok
    obtain ⟨s3, M3⟩ := M2.setWalk F2.ok hi a.h R2 (fun b hb q => by have := hub b hb; have := hlt b q; omega)
    have ou := R2.slv
    have ou1 := ou.one
    have ou2 := ou.box
    have bwl : B.bw < g2.next := F2.ok.lt M2.wo
    simp only [S.z06, zi, z7, z9, Option.map_some, z8, zy, z6, List.getElem?_cons_zero, List.getElem?_cons_succ, Nat.zero_add, Nat.add_zero, Nat.reduceAdd, Nat.reduceLeDiff, Int.reduceEq, Int.reduceNeg, zf, z0o, V.beq, z17, za, List.length_cons, List.length_nil, Nat.beq_refl, Bool.and_true, Bool.true_and, Bool.and_self, decide_true, decide_false, z02, List.take_succ_cons, List.take_zero, List.drop_succ_cons, List.drop_zero, List.cons_append, List.nil_append, fill, repl, opd, z82, zh, zi, hcl, l9, han, e1, l81, han1, e2, l82, han2, iw, ou2, s3]
    refine Ev.some ⟨rfl, rfl, ((F1.trans F2 (by simp)).put (.inl hbw) bwl _), _, M3, rfl, fun x hx => .inl hx, fun x hx => ?_⟩
    rcases zyo hx with q | q
    · exact .inl q
    · exact .inr (by have := hub x q; omega)
  by_cases k9 : c.kind = 9
  · rw [k9] at hcl
    cases hcome : r.come w with
    | nil => exact absurd hcome (h9 k9)
    | cons x xs =>
      have hd : z09 r w c a = { (r.gives w a.h x) with Cm := r.Cm.set i xs } := by
        unfold z09
        rw [hcome, k9, hwi]; simp
      rw [hd]
      rw [hcome] at R
      obtain ⟨b2, o2, i2, l2⟩ := R.at (i := 0) (w := x) rfl
      have i2 : zd 1 v (.int .i64 0) = some (.ptr b2 o2) := i2
      obtain ⟨v', sl, R'⟩ := R.tail
      obtain ⟨g1, e1, F1, M1, hn1⟩ := zp7 ok M I (w := w) (q := a.h) (n := x) w0 w1 (hf (.inr k9))
      have l81 := M1.l8
      have R1 := M1.wr i v (x :: xs) hv (by rw [show (r.gives w a.h x).Cm = r.Cm from rfl, hCm, hcome])
      obtain ⟨v'', sl1, R1'⟩ := R1.tail
      have hvv : v'' = v' := by rw [sl] at sl1; exact (Option.some.inj sl1).symm
      subst hvv
      obtain ⟨e5, e6⟩ := zod hW hv
      have lv1 : ldB (g1.get B.bw) (i * 2 + 1) = some v := by
        have e6' : (z1n (r.gives w a.h x).Wk B.ns)[i * 2 + 1]? = some v := e6
        rw [M1.wo, z6, e6']; simp only [R.slv.one]
      have hvb : ∀ b ∈ v''.blk, b ∈ v.blk := by
        intro b hb
        rcases R with ⟨_, h0⟩ | ⟨bb, o, cc, kk, cs, hx, _⟩
        · cases h0
        · rw [hx] at sl ⊢
          rcases R' with ⟨e, _⟩ | ⟨b', o', c', k', cs', e, hb', _⟩
          · rw [e] at hb; cases hb
          · rw [e] at hb sl
            simp only [V.blk, List.mem_singleton] at hb ⊢
            subst hb
            -- a slice of a slice stands in its block
            have := z02c sl
            simpa [V.blk] using this
      have hW1 : r.Wk.set i (r.walk w) = r.Wk := by
        apply List.ext_getElem?
        intro j
        by_cases hj : i = j
        · subst hj; rw [List.getElem?_set_self (z03 hW), hW]
        · rw [List.getElem?_set_ne hj]
      obtain ⟨s3, M3⟩ := M1.setWalk F1.ok hi (r.walk w) R1' (fun b hb => M.nbm hv (hvb b hb))
      have hset : (r.gives w a.h x).Wk.set i (r.walk w) = r.Wk := hW1
      rw [hset] at s3 M3
      have ov := R1'.slv
      have ov1 := ov.one
      have ov2 := ov.cells
      have hlw : (z1n r.Wk B.ns).length = k.C * 2 := by have := M.wl; rw [zh5 (by omega), this.1]
      have s4 : stB (g1.get B.bw) (i * 2 + 1) [v''] = some (.cells (z1n r.Wk (B.ns.set i v'')) B.kb) := by
        have := M.wl
        rw [zpk M1.wo B.kb_ne (by show i * 2 + 1 < (z1n r.Wk B.ns).length; rw [hlw]; omega) ov1]
        have : (z1n (r.gives w a.h x).Wk B.ns).set (i * 2 + 1) v'' = z1n r.Wk (B.ns.set i v'') := zug (l := r.Wk) (m := B.ns) v'' (by omega) (by omega)
        rw [this]
      have bwl : B.bw < g1.next := F1.ok.lt M1.wo
      simp only [S.z06, zi, z7, z9, Option.map_some, z8, zy, z6, List.getElem?_cons_zero, List.getElem?_cons_succ, Nat.zero_add, Nat.add_zero, Nat.reduceAdd, Nat.reduceLeDiff, Int.reduceEq, Int.reduceNeg, zf, z0o, za, List.length_cons, List.length_nil, Nat.beq_refl, Bool.and_true, decide_true, decide_false, z02, List.take_zero, List.cons_append, List.nil_append, fill, repl, opd, zh, zi, hcl, han, l8, iw, lv, i2, l2, e1, l81, lv1, sl, ov2, s4]
      refine Ev.some ⟨rfl, rfl, F1.put (.inl hbw) bwl _, { B with ns := B.ns.set i v'' }, M3, rfl, fun x hx => .inl hx, fun y hy => ?_⟩
      rcases zyo hy with q | q
      · exact .inl q
      · exact .inl (by unfold MdB.nb; exact List.mem_flatten.mpr ⟨v.blk, List.mem_map.mpr ⟨v, List.mem_of_getElem? hv, rfl⟩, hvb y q⟩)
  · have k10 : c.kind = 10 := by omega
    rw [k10] at hcl
    have hd : z09 r w c a = { r with Wk := r.Wk.set i 0, Cm := r.Cm.set i [] } := by unfold z09; rw [k10, hwi]; simp
    rw [hd]
    obtain ⟨s3, M3⟩ := M.setWalk ok hi 0 (v := .nilsl) (l := []) (.inl ⟨rfl, rfl⟩) (by simp [V.blk])
    have bwl : B.bw < g.next := ok.lt M.wo
    simp only [S.z06, zi, z7, z9, Option.map_some, z8, zy, z6, List.getElem?_cons_zero, List.getElem?_cons_succ, Nat.zero_add, Nat.add_zero, Nat.reduceAdd, Nat.reduceLeDiff, Int.reduceEq, Int.reduceNeg, zf, z0o, za, List.length_cons, List.length_nil, Nat.beq_refl, Bool.and_true, decide_true, decide_false, z02, List.take_zero, List.cons_append, List.nil_append, fill, repl, opd, zh, zi, hcl, l8, iw, s3]
    refine Ev.some ⟨rfl, rfl, (Fr.refl ok).put (.inl hbw) bwl _, _, M3, rfl, fun x hx => .inl hx, fun y hy => ?_⟩
    rcases zyo hy with q | q
    · exact .inl q
    · simp [V.blk] at q
end
theorem Sub.none {g0 : Nat → Option Blk} {h : H} (sb : Sub g0 h.get) (ok : h.ok) {n : Nat} (hn : h.next ≤ n) : g0 n = none := by
  cases hg : g0 n with
  | none => rfl
  | some x => have := sb.lt ok hg; omega
section
variable {g0 : Nat → Option Blk} {h : H} {k : Cfg} {s : StV} {r : RSt} {c : CallR} {a : AnsR} {g : H} {p q pa po : Nat}
theorem z002 (X : DxAt g0 h k s r c a g p q pa po) (I : RIn k r) (B : r.small) (ka : k.a ≤ 100000) {w : Int} (w0 : 0 ≤ w) (w1 : w < k.c) (he : errR k r w c = 0) :
    Ev (S.z5s W w (.ptr p 0) (.ptr q 0) (.ptr pa 0) (.ptr po 0) (r.node w c.h) (z1i r w c) (yesR r w c) false g) (Fin' g0 h k (z09 r w c a) true) := by
  have ok := X.D.E.ok
  have sbg := X.sb.fr0 X.hok X.F
  obtain ⟨⟨v, g1⟩, e1, t, n0, n1, n2, n3, n4, n5, rfl, F1, T, hn0, hn5⟩ := z00j (k := k) ok sbg X.Z0 B
  dsimp only at F1 T hn5
  have lN := X.D.E.lN
  have Z := T.at (sbg.fr0 ok F1)
  have F2 : Fr [] g1 (g1.new (.cells [.int .i64 0, .int .i64 0, .int .i64 0, .int .i64 0, .int .i64 0, .int .i64 0, .nilsl, .nilsl, .nilsl, .nilsl, .nilsl] .rw)) := (Fr.refl F1.ok).new _
  have hT0 := ze g1 (.cells [.int .i64 0, .int .i64 0, .int .i64 0, .int .i64 0, .int .i64 0, .int .i64 0, .nilsl, .nilsl, .nilsl, .nilsl, .nilsl] .rw)
  have hst : stB ((g1.new (.cells [.int .i64 0, .int .i64 0, .int .i64 0, .int .i64 0, .int .i64 0, .int .i64 0, .nilsl, .nilsl, .nilsl, .nilsl, .nilsl] .rw)).get g1.next) 0 [V.int .i64 k.s, .int .i64 k.a, .int .i64 k.c, .int .i64 k.hd, .int .i64 k.g, .int .i64 k.st, t.f, t.h, t.w, t.c, t.g] = some (.cells [V.int .i64 k.s, .int .i64 k.a, .int .i64 k.c, .int .i64 k.hd, .int .i64 k.g, .int .i64 k.st, t.f, t.h, t.w, t.c, t.g] .rw) := by
    rw [hT0]; exact zme rfl (zne k Z)
  have hs2 : (g1.new (.cells [.int .i64 0, .int .i64 0, .int .i64 0, .int .i64 0, .int .i64 0, .int .i64 0, .nilsl, .nilsl, .nilsl, .nilsl, .nilsl] .rw)).st 11 (.ptr g1.next 0) (t.v k) = some ((g1.new (.cells [.int .i64 0, .int .i64 0, .int .i64 0, .int .i64 0, .int .i64 0, .int .i64 0, .nilsl, .nilsl, .nilsl, .nilsl, .nilsl] .rw)).put g1.next (some (.cells [V.int .i64 k.s, .int .i64 k.a, .int .i64 k.c, .int .i64 k.hd, .int .i64 k.g, .int .i64 k.st, t.f, t.h, t.w, t.c, t.g] .rw))) := by
    rw [zy]
    show (Option.map _ (stB _ 0 [V.int .i64 k.s, .int .i64 k.a, .int .i64 k.c, .int .i64 k.hd, .int .i64 k.g, .int .i64 k.st, t.f, t.h, t.w, t.c, t.g])) = _
    rw [hst]; rfl
  simp only [S.z5s, zo, lN, z9, zh, e1, hs2]
  have F3 : Fr [] g ((g1.new (.cells [.int .i64 0, .int .i64 0, .int .i64 0, .int .i64 0, .int .i64 0, .int .i64 0, .nilsl, .nilsl, .nilsl, .nilsl, .nilsl] .rw)).put g1.next (some (.cells [V.int .i64 k.s, .int .i64 k.a, .int .i64 k.c, .int .i64 k.hd, .int .i64 k.g, .int .i64 k.st, t.f, t.h, t.w, t.c, t.g] .rw))) := (F1.trans' F2).put (.inr F1.le) (Nat.lt_succ_self _) _
  have hcs := zs (g1.new (.cells [.int .i64 0, .int .i64 0, .int .i64 0, .int .i64 0, .int .i64 0, .int .i64 0, .nilsl, .nilsl, .nilsl, .nilsl, .nilsl] .rw)) g1.next (some (.cells [V.int .i64 k.s, .int .i64 k.a, .int .i64 k.c, .int .i64 k.hd, .int .i64 k.g, .int .i64 k.st, t.f, t.h, t.w, t.c, t.g] .rw))
  have T3 : TSt k g0 ((g1.new (.cells [.int .i64 0, .int .i64 0, .int .i64 0, .int .i64 0, .int .i64 0, .int .i64 0, .nilsl, .nilsl, .nilsl, .nilsl, .nilsl] .rw)).put g1.next (some (.cells [V.int .i64 k.s, .int .i64 k.a, .int .i64 k.c, .int .i64 k.hd, .int .i64 k.g, .int .i64 k.st, t.f, t.h, t.w, t.c, t.g] .rw))).get n0 n1 n2 n3 n4 n5 t r := T.congr fun b h1 h2 => by
    rw [zj (by omega), z1h (by omega)]
  obtain ⟨cs, u1, _⟩ := X.D.ou
  have lp := ok.lt X.D.E.st
  have lq := ok.lt X.D.E.cl
  have la := ok.lt X.D.an
  have lo := ok.lt u1
  have hp := X.lo
  have A : SwAt g0 g k s r c a ((g1.new (.cells [.int .i64 0, .int .i64 0, .int .i64 0, .int .i64 0, .int .i64 0, .int .i64 0, .nilsl, .nilsl, .nilsl, .nilsl, .nilsl] .rw)).put g1.next (some (.cells [V.int .i64 k.s, .int .i64 k.a, .int .i64 k.c, .int .i64 k.hd, .int .i64 k.g, .int .i64 k.st, t.f, t.h, t.w, t.c, t.g] .rw))) p q pa po g1.next n0 n1 n2 n3 n4 n5 t :=
    ⟨X.D.fr F3, ok, sbg, X.Z0, F3, T3, hcs, hn0, hn5, by omega, by omega, by omega, by omega, lo, X.sb.none X.hok hp.1⟩
  refine (z00s A I B ka w0 w1 he).mono ?_
  rintro ⟨_, g'⟩ ⟨t', rfl, F', Z'⟩
  dsimp only at F' Z'
  refine ⟨t', rfl, X.F.trans F' (fun b hb => .inr (by simp only [List.mem_singleton] at hb; omega)), Z'.sub fun b x hb => ?_⟩
  have hge := X.F.le
  unfold ug at hb ⊢
  by_cases h1 : b < g.next
  · rw [if_pos h1] at hb
    rw [if_pos (X.sb.lt X.hok hb)]; exact hb
  · rw [if_neg h1] at hb
    rw [if_neg (by omega)]; exact hb
def ok13 (r : RSt) (w : Int) (c : CallR) (a : AnsR) : Bool := decide (a.err = 0) && (a.yes == yesR r w c) && (if z1i r w c then r.fresh a.h else decide (a.h = 0))
theorem zzl (X : DxAt g0 h k s r c a g p q pa po) (B : r.small) (w nh : Int) :
    Ev (S.z20 W w (.ptr p 0) (.ptr q 0) (.ptr pa 0) (.ptr po 0) nh (z1i r w c) (yesR r w c) g) fun z => z.1 = .normal ∧ z.2.1 = S.z11 (.int .i64 w) (.ptr p 0) (.ptr q 0) (.ptr pa 0) (.ptr po 0) (.int .i64 nh) (.bool (z1i r w c)) (.bool (yesR r w c)) (.bool (!ok13 r w c a)) ∧ Fr [] g z.2.2 := by
  have han := X.D.an
  have lN := X.D.E.lN
  have F0 : Fr [] g g := .refl X.D.E.ok
  unfold ok13
  cases d0 : decide (a.err = 0) with
  | false =>
    simp only [S.z20, z7, z9, z8, zo, z6, List.getElem?_cons_zero, List.getElem?_cons_succ, Nat.zero_add, Nat.add_zero, Nat.reduceAdd, z23, zf, za, Bool.false_and, Bool.not_false, eqV, zh, han, d0]
    exact Ev.some ⟨rfl, rfl, F0⟩
  | true =>
    cases dy : (a.yes == yesR r w c) with
    | false =>
      simp only [S.z20, z7, z9, z8, zo, z6, List.getElem?_cons_zero, List.getElem?_cons_succ, Nat.zero_add, Nat.add_zero, Nat.reduceAdd, z23, zf, za, Bool.and_false, Bool.false_and, Bool.not_true, Bool.not_false, eqV, zh, han, d0, dy]
      exact Ev.some ⟨rfl, rfl, F0⟩
    | true =>
      cases dg : z1i r w c with
      | false =>
        simp only [S.z20, z7, z9, z8, z6, List.getElem?_cons_zero, List.getElem?_cons_succ, Nat.zero_add, Nat.add_zero, z23, zf, za, Bool.true_and, Bool.not_true, Bool.not_false, Bool.and_self, if_false, eqV, han, d0, dy, Bool.false_eq_true]
        exact Ev.some ⟨rfl, rfl, F0⟩
      | true =>
        obtain ⟨⟨v, g1⟩, e1, rfl, F1⟩ := zxy (k := k) X.D.E.ok X.D.E.Z.g B.g a.h
        dsimp only at F1
        cases df : r.fresh a.h with
        | true =>
          rw [df] at e1
          simp only [S.z20, z7, z9, z8, zo, z6, List.getElem?_cons_zero, List.getElem?_cons_succ, Nat.zero_add, Nat.add_zero, Nat.reduceAdd, z23, zf, za, zw, Bool.not_true, Bool.and_self, if_true, eqV, zh, han, lN, d0, dy, e1]
          exact Ev.some ⟨rfl, rfl, F1⟩
        | false =>
          rw [df] at e1
          simp only [S.z20, z7, z9, z8, zo, z6, List.getElem?_cons_zero, List.getElem?_cons_succ, Nat.zero_add, Nat.add_zero, Nat.reduceAdd, z23, zf, za, zw, Bool.and_false, Bool.not_true, Bool.not_false, Bool.and_self, if_true, eqV, zh, han, lN, d0, dy, e1]
          exact Ev.some ⟨rfl, rfl, F1⟩
theorem z00k (X : DxAt g0 h k s r c a g p q pa po) (I : RIn k r) (B : r.small) (ka : k.a ≤ 100000) {w : Int} (w0 : 0 ≤ w) (w1 : w < k.c) (he : errR k r w c = 0) (h4 : a.err ≠ 4) :
    Ev ((S.z5p W (S.z5n (.int .i64 w) (.ptr p 0) (.ptr q 0) (.ptr pa 0) (.ptr po 0) (.int .i64 (r.node w c.h)) (.bool (z1i r w c)) (.bool (yesR r w c))) g).bind fun z => S.z73 W z.1 z.2.1 z.2.2) (Fin' g0 h k (doR k r w c a) (okR k r w c a)) := by
  have hok : okR k r w c a = ok13 r w c a := by
    unfold okR ok13
    rw [if_neg (by omega), if_neg (by rw [he]; simp), if_neg h4]
    have : (a.yes == yesR r w c) = decide (a.yes = yesR r w c) := by cases a.yes <;> cases yesR r w c <;> rfl
    rw [this]
  rw [S.zig]
  refine Ev.bind (zzl X B w (r.node w c.h)) ?_
  rintro ⟨_, _, g1⟩ ⟨rfl, rfl, F1⟩
  dsimp only at F1 ⊢
  rw [S.zhc]
  have X1 := X.fr F1
  cases ho : ok13 r w c a with
  | true =>
    have ha : a.err = 0 := by
      unfold ok13 at ho
      simp only [Bool.and_eq_true, decide_eq_true_eq] at ho
      exact ho.1.1
    have hd : doR k r w c a = z09 r w c a := by
      unfold doR zds
      rw [hok, ho, he, ha]; rfl
    rw [hd, hok, ho]
    exact z002 X1 I B ka w0 w1 he
  | false =>
    have hd : doR k r w c a = r := by
      unfold doR zds
      rw [hok, ho]; rfl
    rw [hd, hok, ho]
    have lN := X1.D.E.lN
    unfold StV.v at lN
    have hst := X1.st
    simp only [S.z5s, z9, Option.map_some, zo, zy, get_put', zq, Nat.zero_add, Nat.reduceAdd, Nat.reduceLeDiff, z0o, List.length_cons, List.length_nil, Nat.beq_refl, Bool.not_false, decide_true, if_true, List.take_succ_cons, List.take_zero, List.drop_zero, finV, z2g, z3z, z2n, lN, hst]
    exact Ev.some (X1.fin false)
end
section
variable {k : Cfg} {B : MdB} {r : RSt} {c : CallR} {a : AnsR}
def MdOut (k : Cfg) (B : MdB) (h : H) (b : Bool) (r' : RSt) (z : V × H) : Prop := z.1 = .bool b ∧ Fr B.l h z.2 ∧ ∃ B', MdAt k z.2.get B' r' ∧ B.ext B' h
theorem MdOut.same {h g : H} (ok : h.ok) (M : MdAt k h.get B r) (F : Fr [] h g) (b : Bool) : MdOut k B h b r (.bool b, g) := ⟨rfl, F.mono (by simp), B, M.fr0 ok F, .refl B h⟩
theorem MdOut.up {h g : H} {b : Bool} {r' : RSt} {z : V × H} (F : Fr [] h g) (O : MdOut k B g b r' z) : MdOut k B h b r' z := by
  obtain ⟨h1, h2, B', h3, h4⟩ := O
  exact ⟨h1, (F.mono (by simp)).trans h2 (fun b hb => .inl hb), B', h3, h4.up F.le⟩
theorem z03o {q : Int} (h : r.fresh q = true) : r.Gv.contains q = false := by
  unfold RSt.fresh at h
  cases hc : r.Gv.contains q with
  | false => rfl
  | true => rw [hc] at h; cases h
theorem z01f {g : H} {q pa : Nat} (D : DnAt k B r c a g q pa) (I : RIn k r) (Bs : r.small) (ka : k.a ≤ 8) (hu : U64 a.h) {w : Int} (w0 : 0 ≤ w) (w1 : w < k.c) (he : errR k r w c = 0) (hfr : z1i r w c = true → r.fresh a.h = true) :
    Ev ((S.zcq W (S.zd2 (.ptr B.b 0) (.int .i64 w) (.ptr q 0) (.ptr pa 0) (.int .i64 (r.node w c.h)) (.bool (z1i r w c)) (.bool (yesR r w c))) g).bind fun p0 => S.ze8 W p0.1 p0.2.1 p0.2.2) (MdOut k B g true (z09 r w c a)) := by
  have E := zo1 he
  have hr := E.rng
  have hf : z1i r w c = true → r.Gv.contains a.h = false := fun hg => z03o (hfr hg)
  rw [S.zp4]
  have key : Ev (S.z06 W (.ptr B.b 0) w (.ptr q 0) (.ptr pa 0) (r.node w c.h) (z1i r w c) (yesR r w c) g) (SwM k B g (z09 r w c a)) := by
    by_cases k1 : c.kind = 1
    · obtain ⟨h1, h2, _⟩ := E.new k1
      exact z050 D I Bs.f k1 w0 w1 (n := c.n.toNat) (by omega) (by omega) (hf (by unfold z1i; rw [decide_eq_true k1]; rfl)) _ _
    by_cases kf : c.kind = 2 ∨ c.kind = 3 ∨ c.kind = 4 ∨ c.kind = 5
    · obtain ⟨n, hn, hF⟩ := I.flAt (E.node (by omega) (by omega))
      obtain ⟨h1, h2⟩ := E.fld (by omega) (by omega)
      exact z054 D I w0 w1 hF (i := c.n.toNat) (by omega) hn (by omega) _ _ rfl rfl hf kf
    · refine z05l D I Bs w0 w1 _ _ (fun k8 => ?_) (fun h => hf ?_) (fun h9 => (E.next h9).1) hu (by omega)
      · obtain ⟨n, hn, hF⟩ := I.flAt (E.node (by omega) (by omega))
        exact ⟨n, hn, z03 hF⟩
      · unfold z1i
        rcases h with h | h
        · rw [h]; simp
        · rw [h]; simp
  refine Ev.bind key ?_
  rintro ⟨_, _, g'⟩ ⟨rfl, rfl, F', B', M', E'⟩
  dsimp only at F' M' E' ⊢
  rw [S.zn7]
  exact Ev.some ⟨rfl, F', B', M', E'⟩
theorem z032 {g : H} {q pa : Nat} (D : DnAt k B r c a g q pa) (I : RIn k r) (Bs : r.small) (ka : k.a ≤ 8) (hu : U64 a.h) {w : Int} (w0 : 0 ≤ w) (w1 : w < k.c) (he : errR k r w c = 0) (ha : a.err = 0) :
    Ev ((S.zco W (S.zcz (.ptr B.b 0) (.int .i64 w) (.ptr q 0) (.ptr pa 0) (.int .i64 (r.node w c.h)) (.bool (z1i r w c)) (.bool (yesR r w c))) g).bind fun p0 => S.ze9 W p0.1 p0.2.1 p0.2.2) (MdOut k B g (okR k r w c a) (doR k r w c a)) := by
  have hok : okR k r w c a = ok13 r w c a := by
    unfold okR ok13
    rw [if_neg (by omega), if_neg (by rw [he]; simp), if_neg (by omega)]
    have : (a.yes == yesR r w c) = decide (a.yes = yesR r w c) := by cases a.yes <;> cases yesR r w c <;> rfl
    rw [this]
  have hS : S.z4p W (.ptr B.b 0) w (.ptr q 0) (.ptr pa 0) (r.node w c.h) (z1i r w c) (yesR r w c) g = some (.normal, S.z2u (.ptr B.b 0) (.int .i64 w) (.ptr q 0) (.ptr pa 0) (.int .i64 (r.node w c.h)) (.bool (z1i r w c)) (.bool (yesR r w c)) (.bool (!ok13 r w c a)), g) := by
    have han := D.an
    have hfs := zz0 D.A.M a.h
    unfold ok13
    rw [decide_eq_true ha]
    cases dy : (a.yes == yesR r w c) with
    | false => simp only [S.z4p, z7, z9, z8, z6, List.getElem?_cons_zero, List.getElem?_cons_succ, Nat.zero_add, z23, zf, za, Bool.and_false, Bool.false_and, Bool.not_false, eqV, zh, han, dy]
    | true =>
      cases dg : z1i r w c with
      | false => simp only [S.z4p, z7, z9, z8, z6, List.getElem?_cons_zero, List.getElem?_cons_succ, Nat.zero_add, z23, zf, za, Bool.true_and, Bool.not_true, Bool.not_false, Bool.and_self, if_false, eqV, han, dy, Bool.false_eq_true]
      | true =>
        cases df : r.fresh a.h with
        | true =>
          rw [df] at hfs
          simp only [S.z4p, z7, z9, z8, z6, List.getElem?_cons_zero, List.getElem?_cons_succ, Nat.zero_add, z23, zf, zw, Bool.not_true, Bool.and_self, if_true, eqV, zh, han, dy, hfs]
        | false =>
          rw [df] at hfs
          simp only [S.z4p, z7, z9, z8, z6, List.getElem?_cons_zero, List.getElem?_cons_succ, Nat.zero_add, z23, zf, zw, Bool.and_false, Bool.not_true, Bool.not_false, Bool.and_self, if_true, eqV, zh, han, dy, hfs]
  rw [S.zoz, hS, z9, S.zmy]
  cases ho : ok13 r w c a with
  | true =>
    have hd : doR k r w c a = z09 r w c a := by
      unfold doR zds
      rw [hok, ho, he, ha]; rfl
    rw [hd, hok, ho]
    simp only [S.zcf, Bool.not_true]
    refine z01f D I Bs ka hu w0 w1 he fun hg => ?_
    unfold ok13 at ho
    rw [if_pos hg] at ho
    simp only [Bool.and_eq_true] at ho
    exact ho.2
  | false =>
    have hd : doR k r w c a = r := by
      unfold doR zds
      rw [hok, ho]; rfl
    rw [hd, hok, ho]
    simp only [S.zcf, Bool.not_false]
    exact Ev.some (MdOut.same D.A.ok D.A.M (.refl D.A.ok) false)
theorem z007 {h : H} (ok : h.ok) (M : MdAt k h.get B r) (I : RIn k r) (Bs : r.small) (ka : k.a ≤ 8) (hu : U64 a.h) {w : Int} (w0 : 0 ≤ w) (w1 : w < k.c) (he : errR k r w c = 0) (ha : a.err = 0) :
    Ev (C 284 [.ptr B.b 0, .int .i64 w, .agg c.cs, .agg a.cs] h) (MdOut k B h (okR k r w c a) (doR k r w c a)) := by
  refine z1y (af := F.z0h) (by kernel_rfl) rfl ?_
  have hcs : V.agg c.cs = .agg [.int .i64 c.kind, .int .i64 c.n, .int .u64 c.h, .int .u64 c.x, .int .u64 c.y] := rfl
  have has : V.agg a.cs = .agg [.int .i64 a.err, .int .u64 a.h, .bool a.yes] := rfl
  rw [hcs, has, S.zrx]
  simp only [S.z0h]
  have F0 : Fr [] h ((h.new (.cells [.int .i64 c.kind, .int .i64 c.n, .int .u64 c.h, .int .u64 c.x, .int .u64 c.y] .rw)).new (.cells [.int .i64 a.err, .int .u64 a.h, .bool a.yes] .rw)) := ((Fr.refl ok).new _).new _
  have hlt := M.lt ok
  have D : DnAt k B r c a ((h.new (.cells [.int .i64 c.kind, .int .i64 c.n, .int .u64 c.h, .int .u64 c.x, .int .u64 c.y] .rw)).new (.cells [.int .i64 a.err, .int .u64 a.h, .bool a.yes] .rw)) h.next (h.next + 1) :=
    ⟨⟨F0.ok, M.fr0 ok F0, by rw [z1h (Nat.ne_of_lt (Nat.lt_succ_self _)), ze]⟩, ze _ _, fun q => by have := hlt _ q; omega, fun q => by have := hlt _ q; omega⟩
  have hn1 : (h.new (.cells [.int .i64 c.kind, .int .i64 c.n, .int .u64 c.h, .int .u64 c.x, .int .u64 c.y] .rw)).next = h.next + 1 := rfl
  rw [hn1]
  generalize ((h.new (.cells [.int .i64 c.kind, .int .i64 c.n, .int .u64 c.h, .int .u64 c.x, .int .u64 c.y] .rw)).new (.cells [.int .i64 a.err, .int .u64 a.h, .bool a.yes] .rw)) = g at D F0 ⊢
  generalize h.next + 1 = pa at D ⊢
  generalize h.next = q at D ⊢
  have E := zo1 he
  have hcl := D.A.cl
  have n1 := zax D.A.M w c.h
  have n2 := zax D.A.M w c.x
  rw [if_pos ⟨w0, w1⟩] at n1 n2
  have l6 := D.A.M.l6
  -- the switch: does it give a handle, and what is answered
  have fin : ∀ {g1 : H}, Fr [] g g1 → ∀ b1 b2, z1i r w c = b1 → yesR r w c = b2 → Ev (S.zda W (.ptr B.b 0) w (.ptr q 0) (.ptr pa 0) (r.node w c.h) b1 b2 g1) (MdOut k B h (okR k r w c a) (doR k r w c a)) := fun F1 b1 b2 e1 e2 => by
    subst e1; subst e2
    simp only [S.zda]
    exact (z032 (D.fr F1) I Bs ka hu w0 w1 he ha).mono fun z hz => hz.up (F0.trans' F1)
  have Fg : Fr [] g g := .refl D.A.ok
  simp only [z9, z8, z6, List.getElem?_cons_zero, List.getElem?_cons_succ, zf, zh, hcl, n1]
  have gv : z1i r w c = (decide (c.kind = 1) || decide (c.kind = 8) || decide (c.kind = 9) || (decide (c.kind = 2) && decide (0 ≤ r.fat (r.node w c.h) c.n))) := rfl
  have ys : yesR r w c = ((decide (c.kind = 5) && zn8 r w c) || (decide (c.kind = 7) && decide (r.node w c.h = r.node w c.x))) := rfl
  by_cases k1 : c.kind = 1
  · have d1 : decide (c.kind = 1) = true := decide_eq_true k1
    simp only [S.z3c, S.z2w, S.z2k, S.z3d, S.z2t, S.z2o, S.z2q, z7, z9, z8, z6, List.getElem?_cons_zero, Nat.add_zero, zf, hcl, d1]
    exact fin Fg true false (by rw [gv, d1]; rfl) (by rw [ys, k1]; simp)
  have d1 : decide (c.kind = 1) = false := decide_eq_false k1
  by_cases k8 : c.kind = 8
  · have d8 : decide (c.kind = 8) = true := decide_eq_true k8
    simp only [S.z3c, S.z2w, S.z2k, S.z3d, S.z2t, S.z2o, S.z2q, z7, z9, z8, z6, List.getElem?_cons_zero, Nat.add_zero, zf, hcl, d1, d8]
    exact fin Fg true false (by rw [gv, d1, d8]; rfl) (by rw [ys, k8]; simp)
  have d8 : decide (c.kind = 8) = false := decide_eq_false k8
  by_cases k9 : c.kind = 9
  · have d9 : decide (c.kind = 9) = true := decide_eq_true k9
    simp only [S.z3c, S.z2w, S.z2k, S.z3d, S.z2t, S.z2o, S.z2q, z7, z9, z8, z6, List.getElem?_cons_zero, Nat.add_zero, zf, hcl, d1, d8, d9]
    exact fin Fg true false (by rw [gv, d1, d8, d9]; rfl) (by rw [ys, k9]; simp)
  have d9 : decide (c.kind = 9) = false := decide_eq_false k9
  by_cases k2 : c.kind = 2
  · have d2 : decide (c.kind = 2) = true := decide_eq_true k2
    obtain ⟨nn, en, hF⟩ := I.flAt (E.node (by omega) (by omega))
    obtain ⟨h0, h1⟩ := E.fld (by omega) (by omega)
    obtain ⟨j, ej, hj⟩ := RSt.fatAt h0 h1
    obtain ⟨b, y, ix, ly, Y⟩ := D.A.M.rows.at hF
    obtain ⟨b3, o3, i3, l3⟩ := Y.at hj
    rw [← ej] at i3
    rw [← en] at ix
    simp only [S.z3c, S.z2w, S.z2k, S.z3d, S.z2t, S.z2o, S.z2q, zi, z7, z9, z8, z6, List.getElem?_cons_zero, List.getElem?_cons_succ, Nat.zero_add, Nat.add_zero, zf, za, zi, hcl, d1, d8, d9, d2, l6, ix, ly, i3, l3]
    exact fin Fg _ false (by rw [gv, d1, d8, d9, d2]; rfl) (by rw [ys, k2]; simp)
  have d2 : decide (c.kind = 2) = false := decide_eq_false k2
  have gv0 : z1i r w c = false := by rw [gv, d1, d8, d9, d2]; rfl
  by_cases k5 : c.kind = 5
  · have d5 : decide (c.kind = 5) = true := decide_eq_true k5
    obtain ⟨h0, h1⟩ := E.fld (by omega) (by omega)
    obtain ⟨⟨v, g1⟩, e1, rfl, F1⟩ := zpw D.A.ok D.A.M I (c := c) w0 w1 (E.node (by omega) (by omega)) ⟨h0, h1⟩
    dsimp only at F1
    unfold CallR.cs at e1
    simp only [S.z3c, S.z2w, S.z2k, S.z3d, S.z2t, S.z2o, S.z2q, z7, z9, z8, zo, z6, zq, List.getElem?_cons_zero, Nat.zero_add, Nat.add_zero, Nat.reduceAdd, Nat.reduceLeDiff, zf, List.length_cons, List.length_nil, decide_true, List.take_succ_cons, List.take_zero, List.drop_zero, zh, hcl, d1, d8, d9, d2, d5, e1]
    exact fin F1 false _ gv0 (by rw [ys, d5, k5]; simp)
  have d5 : decide (c.kind = 5) = false := decide_eq_false k5
  by_cases k7 : c.kind = 7
  · have d7 : decide (c.kind = 7) = true := decide_eq_true k7
    simp only [S.z3c, S.z2w, S.z2k, S.z3d, S.z2t, S.z2o, S.z2q, z7, z9, z8, z6, List.getElem?_cons_zero, List.getElem?_cons_succ, Nat.zero_add, Nat.add_zero, zf, za, zh, hcl, d1, d8, d9, d2, d5, d7, n2]
    exact fin Fg false _ gv0 (by rw [ys, d5, d7]; rfl)
  · have d7 : decide (c.kind = 7) = false := decide_eq_false k7
    simp only [S.z3c, S.z2w, S.z2k, S.z3d, S.z2t, S.z2o, S.z2q, z7, z9, z8, z6, List.getElem?_cons_zero, Nat.add_zero, zf, hcl, d1, d8, d9, d2, d5, d7]
    exact fin Fg false false gv0 (by rw [ys, d5, d7]; rfl)
theorem z016 (e h e' h' : Int) (y y' : Bool) : eqV (.agg [(0, .int), (1, .int), (2, .bool)]) (.agg [.int .i64 e, .int .u64 h, .bool y]) (.agg [.int .i64 e', .int .u64 h', .bool y']) = some (decide (e = e') && decide (h = h') && (y == y')) := by
  simp only [eqV, z7z, List.getElem?_cons_zero, List.getElem?_cons_succ, z50, decide_true]
  cases decide (e = e') <;> cases decide (h = h') <;> cases (y == y') <;> rfl
theorem zza {h g : H} {q pa : Nat} (F0 : Fr [] h g) (D : DnAt k B r c a g q pa) (I : RIn k r) (Bs : r.small) (ka : k.a ≤ 8) (hu : U64 a.h) {w : Int} (w0 : 0 ≤ w) (w1 : w < k.c) (fl : Bool) (hfl : errR k r w c = 0 → fl = (decide (c.kind = 1) || (decide (3 ≤ c.kind) && decide (c.kind ≤ 5)))) :
    Ev (S.z1m W (.ptr B.b 0) w (.ptr q 0) (.ptr pa 0) (errR k r w c) fl g) (MdOut k B h (okR k r w c a) (doR k r w c a)) := by
  have hcl := D.A.cl
  have han := D.an
  have keep : ∀ {g1 : H}, Fr [] g g1 → ∀ b, okR k r w c a = b → doR k r w c a = r → MdOut k B h (okR k r w c a) (doR k r w c a) (.bool b, g1) := fun F b e1 e2 => by
    rw [e1, e2]
    exact (MdOut.same D.A.ok D.A.M F b).up F0
  have Fg : Fr [] g g := .refl D.A.ok
  by_cases he : errR k r w c = 0
  rotate_left
  · have de : decide (errR k r w c = 0) = false := decide_eq_false he
    have hok : okR k r w c a = (decide (a.err = errR k r w c) && decide (a.h = 0) && (a.yes == false)) := by
      unfold okR
      rw [if_neg (by omega), if_pos he]
      cases a.yes <;> rfl
    have hd : doR k r w c a = r := by
      unfold doR zds
      rw [de]; simp
    have hq := z016 a.err a.h (errR k r w c) 0 a.yes false
    simp only [S.z1m, de, Bool.not_false, zo, han, zq, List.length_cons, List.length_nil, Nat.zero_add, Nat.reduceAdd, Nat.le_refl, decide_true, List.drop_zero, List.take_succ_cons, List.take_zero, z9, hq]
    exact Ev.some (keep Fg _ hok hd)
  have de : decide (errR k r w c = 0) = true := decide_eq_true he
  have hfl := hfl he
  have E := zo1 he
  have dz : decide ((0 : Int) = 0) = true := rfl
  rw [he]
  by_cases h4 : a.err = 4
  · have d4 : decide (a.err = 4) = true := decide_eq_true h4
    have hok : okR k r w c a = (zfp r w c && decide (a.h = 0) && !a.yes) := by
      unfold okR
      rw [if_neg (by omega), if_neg (by rw [he]; simp), if_pos h4]
    have hd : doR k r w c a = r := by
      unfold doR zds
      rw [h4]; simp
    have hm : zfp r w c = (decide (c.kind = 1) || decide (c.kind = 3) || decide (c.kind = 4) || (decide (c.kind = 5) && zn8 r w c)) := rfl
    have hq := z016 a.err a.h 4 0 a.yes false
    rw [d4, Bool.true_and] at hq
    have hyy : (a.yes == false) = !a.yes := by cases a.yes <;> rfl
    rw [hyy] at hq
    simp only [eqV] at hq
    have hq1 : (decide (a.h = 0) && !a.yes) = true ∨ (decide (a.h = 0) && !a.yes) = false := by cases (decide (a.h = 0) && !a.yes) <;> simp
    cases hf : fl with
    | false =>
      have hm0 : zfp r w c = false := by
        rw [hf] at hfl
        have h1 : decide (c.kind = 1) = false := by
          cases h : decide (c.kind = 1) with
          | false => rfl
          | true => rw [h] at hfl; cases hfl
        have hn1 := of_decide_eq_false h1
        rw [h1, Bool.false_or] at hfl
        have h2 : ¬ (3 ≤ c.kind ∧ c.kind ≤ 5) := fun q => by
          rw [decide_eq_true q.1, decide_eq_true q.2] at hfl; cases hfl
        rw [hm, h1, decide_eq_false (show ¬ c.kind = 3 by omega), decide_eq_false (show ¬ c.kind = 4 by omega), decide_eq_false (show ¬ c.kind = 5 by omega)]; rfl
      simp only [S.z1m, z7, z9, z8, zo, z6, zq, List.getElem?_cons_zero, Nat.zero_add, Nat.add_zero, Nat.reduceAdd, Nat.reduceLeDiff, zf, za, List.length_cons, List.length_nil, Bool.not_true, decide_true, List.take_succ_cons, List.take_zero, List.drop_zero, zh, han, d4]
      exact Ev.some (keep Fg false (by rw [hok, hm0]; rfl) hd)
    | true =>
      rcases hq1 with e | e
      rotate_left
      · rw [e] at hq
        simp only [S.z1m, z7, z9, z8, zo, z6, zq, List.getElem?_cons_zero, Nat.zero_add, Nat.add_zero, Nat.reduceAdd, Nat.reduceLeDiff, zf, za, List.length_cons, List.length_nil, Bool.not_true, decide_true, List.take_succ_cons, List.take_zero, List.drop_zero, eqV, zh, han, d4]
        rw [zl hq, z9]
        exact Ev.some (keep Fg false (by rw [hok, Bool.and_assoc, e, Bool.and_false]) hd)
      · rw [e] at hq
        by_cases k5 : c.kind = 5
        · have d5 : decide (c.kind = 5) = true := decide_eq_true k5
          obtain ⟨h0, h1⟩ := E.fld (by omega) (by omega)
          obtain ⟨⟨v, g1⟩, e1, rfl, F1⟩ := zpw D.A.ok D.A.M I (c := c) w0 w1 (E.node (by omega) (by omega)) ⟨h0, h1⟩
          dsimp only at F1
          unfold CallR.cs at e1
          simp only [S.z1m, z7, z9, z8, zo, z6, zq, List.getElem?_cons_zero, Nat.zero_add, Nat.add_zero, Nat.reduceAdd, Nat.reduceLeDiff, zf, za, List.length_cons, List.length_nil, Bool.not_true, decide_true, List.take_succ_cons, List.take_zero, List.drop_zero, eqV, zh, han, d4]
          rw [zl hq, z9]
          simp only [z9, z6, zq, List.getElem?_cons_zero, Nat.zero_add, Nat.reduceAdd, Nat.reduceLeDiff, zf, za, zw, List.length_cons, List.length_nil, decide_true, List.take_succ_cons, List.take_zero, List.drop_zero, hcl, d5, e1, Bool.not_not]
          exact Ev.some (keep F1 _ (by rw [hok, Bool.and_assoc, e, Bool.and_true, hm, k5]; simp) hd)
        · have d5 : decide (c.kind = 5) = false := decide_eq_false k5
          have hm1 : zfp r w c = true := by
            rw [hf] at hfl
            by_cases k1 : c.kind = 1
            · rw [hm, decide_eq_true k1]; rfl
            · rw [decide_eq_false k1, Bool.false_or] at hfl
              have h2 : 3 ≤ c.kind ∧ c.kind ≤ 5 := by simpa using hfl.symm
              by_cases k3 : c.kind = 3
              · rw [hm, decide_eq_true k3]; simp
              · have k4 : c.kind = 4 := by omega
                rw [hm, decide_eq_true k4]; simp
          simp only [S.z1m, z7, z9, z8, zo, z6, zq, List.getElem?_cons_zero, Nat.zero_add, Nat.add_zero, Nat.reduceAdd, Nat.reduceLeDiff, zf, za, List.length_cons, List.length_nil, Bool.not_true, decide_true, List.take_succ_cons, List.take_zero, List.drop_zero, eqV, zh, han, d4]
          rw [zl hq, z9]
          simp only [z9, z6, zq, List.getElem?_cons_zero, Nat.zero_add, Nat.reduceAdd, Nat.reduceLeDiff, zf, za, List.length_cons, List.length_nil, decide_true, List.take_succ_cons, List.take_zero, List.drop_zero, hcl, d5]
          exact Ev.some (keep Fg true (by rw [hok, Bool.and_assoc, e, hm1]; rfl) hd)
  · have d4 : decide (a.err = 4) = false := decide_eq_false h4
    by_cases h0 : a.err = 0
    · have d0 : decide (a.err = 0) = true := decide_eq_true h0
      obtain ⟨⟨v, g1⟩, e1, O⟩ := z007 D.A.ok D.A.M I Bs ka hu (c := c) w0 w1 he h0
      obtain ⟨hv, F1, B', M', E'⟩ := O
      dsimp only at hv F1 M'
      subst hv
      unfold CallR.cs AnsR.cs at e1
      simp only [S.z1m, z7, z9, z8, zo, z6, zq, List.getElem?_cons_zero, Nat.zero_add, Nat.add_zero, Nat.reduceAdd, Nat.reduceLeDiff, zf, za, List.length_cons, List.length_nil, Bool.not_true, decide_true, List.take_succ_cons, List.take_zero, List.drop_zero, eqV, zh, han, hcl, d4, d0, e1]
      exact Ev.some (MdOut.up F0 ⟨rfl, F1, B', M', E'⟩)
    · have d0 : decide (a.err = 0) = false := decide_eq_false h0
      have hok : okR k r w c a = false := by
        unfold okR
        rw [if_neg (by omega), if_neg (by rw [he]; simp), if_neg h4, d0]; rfl
      have hd : doR k r w c a = r := by unfold doR zds; rw [hok]; rfl
      simp only [S.z1m, z7, z9, z8, zo, z6, zq, List.getElem?_cons_zero, Nat.zero_add, Nat.add_zero, Nat.reduceAdd, Nat.reduceLeDiff, zf, za, List.length_cons, List.length_nil, Bool.not_true, decide_true, List.take_succ_cons, List.take_zero, List.drop_zero, eqV, zh, han, d4, d0]
      exact Ev.some (keep Fg false hok hd)
theorem z00a {h : H} (ok : h.ok) (M : MdAt k h.get B r) (I : RIn k r) (Bs : r.small) (ka : k.a ≤ 8) (hu : U64 a.h) (w : Int) :
    Ev (C 103 [.ptr B.b 0, .int .i64 w, .agg c.cs, .agg a.cs] h) (MdOut k B h (okR k r w c a) (doR k r w c a)) := by
  refine z1y (af := F.z1t) (by kernel_rfl) rfl ?_
  have hcs : V.agg c.cs = .agg [.int .i64 c.kind, .int .i64 c.n, .int .u64 c.h, .int .u64 c.x, .int .u64 c.y] := rfl
  have has : V.agg a.cs = .agg [.int .i64 a.err, .int .u64 a.h, .bool a.yes] := rfl
  rw [hcs, has, S.zrb]
  simp only [S.z1t]
  have F0 : Fr [] h ((h.new (.cells [.int .i64 c.kind, .int .i64 c.n, .int .u64 c.h, .int .u64 c.x, .int .u64 c.y] .rw)).new (.cells [.int .i64 a.err, .int .u64 a.h, .bool a.yes] .rw)) := ((Fr.refl ok).new _).new _
  have hlt := M.lt ok
  have D : DnAt k B r c a ((h.new (.cells [.int .i64 c.kind, .int .i64 c.n, .int .u64 c.h, .int .u64 c.x, .int .u64 c.y] .rw)).new (.cells [.int .i64 a.err, .int .u64 a.h, .bool a.yes] .rw)) h.next (h.next + 1) :=
    ⟨⟨F0.ok, M.fr0 ok F0, by rw [z1h (Nat.ne_of_lt (Nat.lt_succ_self _)), ze]⟩, ze _ _, fun q => by have := hlt _ q; omega, fun q => by have := hlt _ q; omega⟩
  have hn1 : (h.new (.cells [.int .i64 c.kind, .int .i64 c.n, .int .u64 c.h, .int .u64 c.x, .int .u64 c.y] .rw)).next = h.next + 1 := rfl
  rw [hn1]
  generalize ((h.new (.cells [.int .i64 c.kind, .int .i64 c.n, .int .u64 c.h, .int .u64 c.x, .int .u64 c.y] .rw)).new (.cells [.int .i64 a.err, .int .u64 a.h, .bool a.yes] .rw)) = g at D F0 ⊢
  generalize h.next + 1 = pa at D ⊢
  generalize h.next = q at D ⊢
  have hc := zk9 D.A.M w
  by_cases hw : 0 ≤ w ∧ w < k.c
  rotate_left
  · have hcf : (decide (0 ≤ w) && decide (w < k.c)) = false := by
      rcases Classical.em (0 ≤ w) with h | h
      · rw [decide_eq_false (fun q => hw ⟨h, q⟩), Bool.and_false]
      · rw [decide_eq_false h, Bool.false_and]
    rw [hcf] at hc
    have hok : okR k r w c a = false := by unfold okR; rw [if_pos (by omega)]
    have hd : doR k r w c a = r := by unfold doR zds; rw [hok]; rfl
    rw [hok, hd]
    simp only [z9, zw, Bool.not_false, zh, hc]
    exact Ev.some (MdOut.same ok M F0 false)
  obtain ⟨w0, w1⟩ := hw
  rw [decide_eq_true w0, decide_eq_true w1] at hc
  have hcl := D.A.cl
  simp only [z9, zw, Bool.not_true, Bool.and_self, zh, hc]
  rw [S.zp3]
  simp only [S.zfw]
  have rest : ∀ {g1 : H}, Fr [] g g1 → ∀ (e : Int) (fl : Bool), errR k r w c = e → (errR k r w c = 0 → fl = (decide (c.kind = 1) || (decide (3 ≤ c.kind) && decide (c.kind ≤ 5)))) → Ev (S.z1m W (.ptr B.b 0) w (.ptr q 0) (.ptr pa 0) e fl g1) (MdOut k B h (okR k r w c a) (doR k r w c a)) := fun F1 e fl he hfl => by
    subst he
    exact zza (F0.trans' F1) (D.fr F1) I Bs ka hu w0 w1 fl hfl
  have Fg : Fr [] g g := .refl D.A.ok
  by_cases k0 : c.kind < 1 ∨ 10 < c.kind
  · have he : errR k r w c = 8 := by rw [zmf, if_pos k0]
    have hfl : errR k r w c = 0 → false = (decide (c.kind = 1) || (decide (3 ≤ c.kind) && decide (c.kind ≤ 5))) := fun q => by rw [he] at q; cases q
    by_cases k1 : c.kind < 1
    · have d0 : decide (c.kind < 1) = true := decide_eq_true k1
      simp only [S.z58, S.z69, S.z4n, S.z57, S.z4q, z7, z9, z8, z6, List.getElem?_cons_zero, Nat.add_zero, zf, za, hcl, d0]
      exact rest Fg 8 false he hfl
    · have d0 : decide (c.kind < 1) = false := decide_eq_false k1
      have d1 : decide (10 < c.kind) = true := decide_eq_true (by omega)
      simp only [S.z58, S.z69, S.z4n, S.z57, S.z4q, z7, z9, z8, z6, List.getElem?_cons_zero, Nat.add_zero, zf, za, hcl, d0, d1]
      exact rest Fg 8 false he hfl
  have d0 : decide (c.kind < 1) = false := decide_eq_false (by omega)
  have d10 : decide (10 < c.kind) = false := decide_eq_false (by omega)
  by_cases k1 : c.kind = 1
  · have d1 : decide (c.kind = 1) = true := decide_eq_true k1
    obtain ⟨⟨v, g1⟩, e1, rfl, F1⟩ := zyd (c := c) D.A.ok D.A.M w0 w1
    dsimp only at F1
    unfold CallR.cs at e1
    have he : errR k r w c = (if c.n < 0 ∨ k.a < c.n then 1 else if (r.held w : Int) < k.hd then 0 else 5) := by rw [zmf, if_neg k0, if_pos k1]
    simp only [S.z58, S.z69, S.z4n, S.z57, S.z4q, z7, z9, z8, zo, z6, zq, List.getElem?_cons_zero, Nat.zero_add, Nat.add_zero, Nat.reduceAdd, Nat.reduceLeDiff, zf, za, List.length_cons, List.length_nil, decide_true, List.take_succ_cons, List.take_zero, List.drop_zero, zh, hcl, d0, d10, d1, e1]
    exact rest F1 _ true he fun _ => by rw [d1]; rfl
  have d1 : decide (c.kind = 1) = false := decide_eq_false k1
  have hwk := z00p c.kind g
  by_cases k9 : c.kind = 9 ∨ c.kind = 10
  · have hwt : (decide (c.kind = 9) || decide (c.kind = 10)) = true := by simpa using k9
    rw [hwt] at hwk
    obtain ⟨⟨v, g1⟩, e1, rfl, F1⟩ := z00h (c := c) D.A.ok D.A.M w0 w1 k9
    dsimp only at F1
    unfold CallR.cs at e1
    have he : errR k r w c = err6 k r w c := by rw [zmf, if_neg k0, if_neg k1, if_pos k9]
    simp only [S.z58, S.z69, S.z4n, S.z57, S.z4q, z7, z9, z8, zo, z6, zq, List.getElem?_cons_zero, Nat.zero_add, Nat.add_zero, Nat.reduceAdd, Nat.reduceLeDiff, zf, za, zw, List.length_cons, List.length_nil, decide_true, List.take_succ_cons, List.take_zero, List.drop_zero, zh, hcl, d0, d10, d1, hwk, e1]
    exact rest F1 _ false he fun _ => by rw [d1, decide_eq_false (show ¬ c.kind ≤ 5 by omega)]; simp
  · have hwt : (decide (c.kind = 9) || decide (c.kind = 10)) = false := by
      rw [decide_eq_false (fun q => k9 (.inl q)), decide_eq_false (fun q => k9 (.inr q))]; rfl
    rw [hwt] at hwk
    obtain ⟨⟨v, g1⟩, e1, rfl, F1⟩ := z008 (c := c) D.A.ok D.A.M I w0 w1
    dsimp only at F1
    unfold CallR.cs at e1
    have hcl1 := F1.get D.A.ok hcl (by simp)
    have hwr := zr6 c.kind g1
    have he : errR k r w c = err9 k r w c := by rw [zmf, if_neg k0, if_neg k1, if_neg k9]
    simp only [S.z58, S.z69, S.z4n, S.z57, S.z4q, z7, z9, z8, zo, z6, zq, List.getElem?_cons_zero, Nat.zero_add, Nat.add_zero, Nat.reduceAdd, Nat.reduceLeDiff, zf, V.beq, z17, za, zw, List.length_cons, List.length_nil, Bool.and_self, decide_true, List.take_succ_cons, List.take_zero, List.drop_zero, zh, hcl, d0, d10, d1, hwk, e1, hcl1, hwr]
    exact rest F1 _ _ he fun _ => by rw [d1, Bool.false_or]
end
section
variable {g0 : Nat → Option Blk} {h : H} {k : Cfg} {s : StV} {r : RSt} {c : CallR} {a : AnsR} {g : H} {p q pa po : Nat}
def ze1 (r : RSt) (w : Int) (c : CallR) : Bool := decide (c.kind = 5) && zn8 r w c
theorem z00f (X : DxAt g0 h k s r c a g p q pa po) (I : RIn k r) (B : r.small) (ka : k.a ≤ 100000) {w : Int} (w0 : 0 ≤ w) (w1 : w < k.c) (he : errR k r w c = 0) (h4 : a.err ≠ 4) :
    Ev ((S.z5k W (S.z5y (.int .i64 w) (.ptr p 0) (.ptr q 0) (.ptr pa 0) (.ptr po 0) (.int .i64 (r.node w c.h)) (.bool (ze1 r w c)) (.bool (z1i r w c))) g).bind fun z => S.z77 W z.1 z.2.1 z.2.2) (Fin' g0 h k (doR k r w c a) (okR k r w c a)) := by
  have hcl := X.D.E.cl
  have lN := X.D.E.lN
  have hy : yesR r w c = (ze1 r w c || (decide (c.kind = 7) && decide (r.node w c.h = r.node w c.x))) := rfl
  have fin : ∀ {g1 : H}, Fr [] g g1 → ∀ b, yesR r w c = b → Ev ((S.z5p W (S.z5n (.int .i64 w) (.ptr p 0) (.ptr q 0) (.ptr pa 0) (.ptr po 0) (.int .i64 (r.node w c.h)) (.bool (z1i r w c)) (.bool b)) g1).bind fun z => S.z73 W z.1 z.2.1 z.2.2) (Fin' g0 h k (doR k r w c a) (okR k r w c a)) := fun F b e => by
    subst e; exact z00k (X.fr F) I B ka w0 w1 he h4
  have F0 : Fr [] g g := .refl X.D.E.ok
  cases ds : ze1 r w c with
  | true =>
    simp only [S.z87, S.z5q, S.z7b, S.z61, z9]
    exact fin F0 true (by rw [hy, ds]; rfl)
  | false =>
    cases d7 : decide (c.kind = 7) with
    | false =>
      simp only [S.z87, S.z5q, S.z7b, S.z61, z7, z9, z8, zo, z6, List.getElem?_cons_zero, List.getElem?_cons_succ, Nat.zero_add, Nat.add_zero, Nat.reduceAdd, zf, za, zh, hcl, d7]
      exact fin F0 false (by rw [hy, ds, d7]; rfl)
    | true =>
      obtain ⟨⟨v, g1⟩, e1, rfl, F1⟩ := zbk (k := k) X.D.E.ok X.D.E.Z.h B.h w c.x
      dsimp only at F1
      simp only [S.z87, S.z5q, S.z7b, S.z61, z7, z9, z8, zo, z6, List.getElem?_cons_zero, List.getElem?_cons_succ, Nat.zero_add, Nat.add_zero, Nat.reduceAdd, zf, za, zh, hcl, lN, d7, e1]
      exact fin F1 _ (by rw [hy, ds, d7]; rfl)
theorem z01k (X : DxAt g0 h k s r c a g p q pa po) (I : RIn k r) (B : r.small) (ka : k.a ≤ 100000) {w : Int} (w0 : 0 ≤ w) (w1 : w < k.c) (he : errR k r w c = 0) (h4 : a.err ≠ 4) :
    Ev ((S.zac W (S.zah (.int .i64 w) (.ptr p 0) (.ptr q 0) (.ptr pa 0) (.ptr po 0) (.int .i64 (r.node w c.h)) (.bool (ze1 r w c))) g).bind fun z => S.zbe W z.1 z.2.1 z.2.2) (Fin' g0 h k (doR k r w c a) (okR k r w c a)) := by
  have hcl := X.D.E.cl
  have l6 := X.D.E.l6
  have E := zo1 he
  have fin : ∀ b, z1i r w c = b → Ev ((S.z5k W (S.z5y (.int .i64 w) (.ptr p 0) (.ptr q 0) (.ptr pa 0) (.ptr po 0) (.int .i64 (r.node w c.h)) (.bool (ze1 r w c)) (.bool b)) g).bind fun z => S.z77 W z.1 z.2.1 z.2.2) (Fin' g0 h k (doR k r w c a) (okR k r w c a)) := fun b e => by
    subst e; exact z00f X I B ka w0 w1 he h4
  cases d1 : decide (c.kind = 1) with
  | true =>
    simp only [S.z41, S.z31, S.z3l, S.z33, z7, z9, z8, z6, List.getElem?_cons_zero, List.getElem?_cons_succ, Nat.zero_add, Nat.add_zero, zf, za, hcl, d1]
    exact fin true (by unfold z1i; rw [d1]; rfl)
  | false =>
  cases d8 : decide (c.kind = 8) with
  | true =>
    simp only [S.z41, S.z31, S.z3l, S.z33, z7, z9, z8, z6, List.getElem?_cons_zero, List.getElem?_cons_succ, Nat.zero_add, Nat.add_zero, zf, za, hcl, d1, d8]
    exact fin true (by unfold z1i; rw [d1, d8]; rfl)
  | false =>
  cases d9 : decide (c.kind = 9) with
  | true =>
    simp only [S.z41, S.z31, S.z3l, S.z33, z7, z9, z8, z6, List.getElem?_cons_zero, List.getElem?_cons_succ, Nat.zero_add, Nat.add_zero, zf, za, hcl, d1, d8, d9]
    exact fin true (by unfold z1i; rw [d1, d8, d9]; rfl)
  | false =>
  cases d2 : decide (c.kind = 2) with
  | false =>
    simp only [S.z41, S.z31, S.z3l, S.z33, z7, z9, z8, z6, List.getElem?_cons_zero, List.getElem?_cons_succ, Nat.zero_add, Nat.add_zero, zf, za, hcl, d1, d8, d9, d2]
    exact fin false (by unfold z1i; rw [d1, d8, d9, d2]; rfl)
  | true =>
    have k2 : c.kind = 2 := of_decide_eq_true d2
    obtain ⟨nn, en, hF⟩ := I.flAt (E.node (by omega) (by omega))
    obtain ⟨h0, h1⟩ := E.fld (by omega) (by omega)
    obtain ⟨j, ej, hj⟩ := RSt.fatAt h0 h1
    obtain ⟨b, y, ix, ly, Y⟩ := X.D.E.Z.f.at hF
    obtain ⟨b3, o3, i3, l3⟩ := Y.at hj
    rw [← ej] at i3
    rw [← en] at ix
    simp only [S.z41, S.z31, S.z3l, S.z33, z7, z9, z8, z6, List.getElem?_cons_zero, List.getElem?_cons_succ, Nat.zero_add, Nat.add_zero, zf, za, hcl, l6, ix, ly, i3, l3, d1, d8, d9, d2]
    exact fin _ (by unfold z1i; rw [d1, d8, d9, d2]; rfl)
theorem z027 (X : DxAt g0 h k s r c a g p q pa po) {w : Int} (w0 : 0 ≤ w) (w1 : w < k.c) (he : errR k r w c = 0) (h4 : a.err = 4) :
    Ev ((S.za7 W (S.za5 (.ptr p 0) (.ptr q 0) (.ptr pa 0) (.ptr po 0) (.bool (ze1 r w c))) g).bind fun z => S.zbg W z.1 z.2.1 z.2.2) (Fin' g0 h k (doR k r w c a) (okR k r w c a)) := by
  have hok : okR k r w c a = (zfp r w c && decide (a.h = 0) && !a.yes) := by
    unfold okR
    rw [if_neg (by omega), if_neg (by rw [he]; simp), if_pos h4]
  have hd : doR k r w c a = r := by
    unfold doR zds
    rw [h4]; simp
  rw [hd, hok]
  have hm : zfp r w c = (decide (c.kind = 1) || decide (c.kind = 3) || decide (c.kind = 4) || ze1 r w c) := rfl
  rw [hm]
  have hcl := X.D.E.cl
  have han := X.D.an
  have lN := X.D.E.lN
  unfold StV.v at lN
  have hst := X.st
  have npa : ¬ pa = po := fun e => X.lo.2.2.2 e.symm
  have d4 : (decide (c.kind = 1) || decide (c.kind = 3) || decide (c.kind = 4) || ze1 r w c) = true ∨ (decide (c.kind = 1) || decide (c.kind = 3) || decide (c.kind = 4) || ze1 r w c) = false := by
    cases (decide (c.kind = 1) || decide (c.kind = 3) || decide (c.kind = 4) || ze1 r w c) <;> simp
  -- the stretch
  have hS : S.za1 W (.ptr p 0) (.ptr q 0) (.ptr pa 0) (.ptr po 0) (ze1 r w c) g = some (.normal, S.z34 (.ptr p 0) (.ptr pa 0) (.ptr po 0) (.bool (decide (c.kind = 1) || decide (c.kind = 3) || decide (c.kind = 4) || ze1 r w c)), g) := by
    cases e1 : decide (c.kind = 1) <;> cases e3 : decide (c.kind = 3) <;> cases e4 : decide (c.kind = 4) <;>
      simp only [S.za1, z7, z9, z8, z6, List.getElem?_cons_zero, Nat.add_zero, zf, za, Bool.or_false, Bool.false_or, Bool.or_self, hcl, e1, e3, e4, Bool.true_or, Bool.or_true]
  rw [S.zj3, hS, z9, S.zhi]
  have hyy : V.beq (.bool a.yes) (.bool a.yes) = true := by simp [V.beq]
  rcases d4 with e | e
  · rw [e]
    cases dh : decide (a.h = 0) with
    | true =>
      simp only [S.z6f, z7, z9, Option.map_some, z8, zo, zy, get_put', z6, zq, List.getElem?_cons_zero, List.getElem?_cons_succ, Nat.zero_add, Nat.reduceAdd, Nat.reduceLeDiff, z23, zf, z0o, V.beq, z17, za, zw, List.length_cons, List.length_nil, Nat.beq_refl, Bool.true_and, Bool.and_self, decide_true, if_true, if_false, List.take_succ_cons, List.take_zero, List.drop_zero, finV, z2g, z3z, z2n, lN, han, dh, hst, npa, BEq.rfl]
      exact Ev.some (X.fin _)
    | false =>
      simp only [S.z6f, z7, z9, Option.map_some, z8, zo, zy, get_put', z6, zq, List.getElem?_cons_zero, List.getElem?_cons_succ, Nat.zero_add, Nat.reduceAdd, Nat.reduceLeDiff, z23, zf, z0o, za, zw, List.length_cons, List.length_nil, Nat.beq_refl, Bool.and_false, Bool.false_and, decide_true, if_true, List.take_succ_cons, List.take_zero, List.drop_zero, finV, z2g, z3z, z2n, lN, han, dh, hst]
      exact Ev.some (X.fin _)
  · rw [e]
    simp only [S.z6f, z9, Option.map_some, zo, zy, get_put', zq, Nat.zero_add, Nat.reduceAdd, Nat.reduceLeDiff, z0o, List.length_cons, List.length_nil, Nat.beq_refl, Bool.false_and, decide_true, if_true, List.take_succ_cons, List.take_zero, List.drop_zero, finV, z2g, z3z, z2n, lN, hst]
    exact Ev.some (X.fin _)
theorem z01n (X : DxAt g0 h k s r c a g p q pa po) (I : RIn k r) (B : r.small) (ka : k.a ≤ 100000) {w : Int} (w0 : 0 ≤ w) (w1 : w < k.c) (he : errR k r w c = 0) :
    Ev ((S.zae W (S.zag (.int .i64 w) (.ptr p 0) (.ptr q 0) (.ptr pa 0) (.ptr po 0) (.int .i64 (r.node w c.h))) g).bind fun z => S.zbj W z.1 z.2.1 z.2.2) (Fin' g0 h k (doR k r w c a) (okR k r w c a)) := by
  have hcl := X.D.E.cl
  have han := X.D.an
  have E := zo1 he
  have lN := X.D.E.lN
  have l6 := X.D.E.l6
  have fin : ∀ {g1 : H}, Fr [] g g1 → ∀ b, ze1 r w c = b → Ev (S.z6g W w (.ptr p 0) (.ptr q 0) (.ptr pa 0) (.ptr po 0) (r.node w c.h) b g1) (Fin' g0 h k (doR k r w c a) (okR k r w c a)) := fun F b e => by
    subst e
    have X1 := X.fr F
    have han1 := X1.D.an
    by_cases h4 : a.err = 4
    · have d4 : decide (a.err = 4) = true := decide_eq_true h4
      simp only [S.z6g, z7, z9, z8, z6, List.getElem?_cons_zero, Nat.add_zero, zf, za, han1, d4]
      exact z027 X1 w0 w1 he h4
    · have d4 : decide (a.err = 4) = false := decide_eq_false h4
      simp only [S.z6g, z7, z9, z8, z6, List.getElem?_cons_zero, Nat.add_zero, zf, za, han1, d4]
      exact z01k X1 I B ka w0 w1 he h4
  cases d5 : decide (c.kind = 5) with
  | false =>
    simp only [S.zdl, S.zaa, S.zc9, z7, z9, z8, zo, z6, List.getElem?_cons_zero, List.getElem?_cons_succ, Nat.zero_add, Nat.add_zero, Nat.reduceAdd, zf, za, zh, hcl, d5]
    exact fin (.refl X.D.E.ok) false (by unfold ze1; rw [d5]; rfl)
  | true =>
    have k5 : c.kind = 5 := of_decide_eq_true d5
    obtain ⟨nn, en, hF⟩ := I.flAt (E.node (by omega) (by omega))
    obtain ⟨h0, h1⟩ := E.fld (by omega) (by omega)
    obtain ⟨j, ej, hj⟩ := RSt.fatAt h0 h1
    obtain ⟨⟨v, g1⟩, e1, rfl, F1⟩ := zbk (k := k) X.D.E.ok X.D.E.Z.h B.h w c.y
    dsimp only at F1
    have X1 := X.fr F1
    have hcl1 := X1.D.E.cl
    have l61 := X1.D.E.l6
    have sb := X.sb.fr0 X.hok X.F
    have sb1 := X1.sb.fr0 X1.hok X1.F
    obtain ⟨b, y, ix, ly, Y⟩ := X.Z0.f.at hF
    obtain ⟨b3, o3, i3, l3⟩ := Y.at hj
    rw [← ej] at i3
    rw [← en] at ix
    have ly0 := sb.ldB ly
    have ly1 := sb1.ldB ly
    have l30 := sb.ldB l3
    have l31 := sb1.ldB l3
    have by1 := Y.slv.beq
    have by2 := X.Z0.f.slv.beq
    simp only [S.zdl, S.zaa, S.zc9, z7, z9, z8, zo, z6, List.getElem?_cons_zero, List.getElem?_cons_succ, Nat.zero_add, Nat.add_zero, Nat.reduceAdd, zf, V.beq, z17, za, Bool.and_self, decide_true, zh, hcl, l6, ix, ly0, i3, l30, lN, e1, hcl1, l61, ly1, l31, by1, by2, d5]
    exact fin F1 _ (by unfold ze1 zn8; rw [d5]; rfl)
theorem zym {h : H} (ok : h.ok) (sb : Sub g0 h.get) (Z : StAt g0 s r) (I : RIn k r) (B : r.small) (ka : k.a ≤ 100000) (w : Int) :
    Ev (C 102 [s.v k, .int .i64 w, .agg c.cs, .agg a.cs] h) (Fin' g0 h k (doR k r w c a) (okR k r w c a)) := by
  refine z1y (af := F.zk) (by kernel_rfl) rfl ?_
  have hv : s.v k = .agg [.int .i64 k.s, .int .i64 k.a, .int .i64 k.c, .int .i64 k.hd, .int .i64 k.g, .int .i64 k.st, s.f, s.h, s.w, s.c, s.g] := rfl
  have hcs : V.agg c.cs = .agg [.int .i64 c.kind, .int .i64 c.n, .int .u64 c.h, .int .u64 c.x, .int .u64 c.y] := rfl
  have has : V.agg a.cs = .agg [.int .i64 a.err, .int .u64 a.h, .bool a.yes] := rfl
  rw [hv, hcs, has, S.zn0]
  simp only [S.zk, H.next_new]
  have F0 : Fr [] h ((((h.new (.cells [.int .i64 k.s, .int .i64 k.a, .int .i64 k.c, .int .i64 k.hd, .int .i64 k.g, .int .i64 k.st, s.f, s.h, s.w, s.c, s.g] .rw)).new (.cells [.int .i64 c.kind, .int .i64 c.n, .int .u64 c.h, .int .u64 c.x, .int .u64 c.y] .rw)).new (.cells [.int .i64 a.err, .int .u64 a.h, .bool a.yes] .rw)).new (.cells [.int .i64 0, .int .i64 0, .int .i64 0, .int .i64 0, .int .i64 0, .int .i64 0, .nilsl, .nilsl, .nilsl, .nilsl, .nilsl] .rw)) := ((((Fr.refl ok).new _).new _).new _).new _
  have X : DxAt g0 h k s r c a ((((h.new (.cells [.int .i64 k.s, .int .i64 k.a, .int .i64 k.c, .int .i64 k.hd, .int .i64 k.g, .int .i64 k.st, s.f, s.h, s.w, s.c, s.g] .rw)).new (.cells [.int .i64 c.kind, .int .i64 c.n, .int .u64 c.h, .int .u64 c.x, .int .u64 c.y] .rw)).new (.cells [.int .i64 a.err, .int .u64 a.h, .bool a.yes] .rw)).new (.cells [.int .i64 0, .int .i64 0, .int .i64 0, .int .i64 0, .int .i64 0, .int .i64 0, .nilsl, .nilsl, .nilsl, .nilsl, .nilsl] .rw)) h.next (h.next + 1) (h.next + 1 + 1) (h.next + 1 + 1 + 1) := by
    refine ⟨⟨⟨F0.ok, ?_, ?_, Z.sub (sb.fr0 ok F0)⟩, ?_, ⟨_, ze _ _, rfl⟩⟩, ok, sb, Z, F0, by omega, by omega, by omega, by omega⟩
    · rw [z1h (by show h.next ≠ h.next + 1 + 1 + 1; omega), z1h (by show h.next ≠ h.next + 1 + 1; omega), z1h (by show h.next ≠ h.next + 1; omega), ze]
    · rw [z1h (by show h.next + 1 ≠ h.next + 1 + 1 + 1; omega), z1h (by show h.next + 1 ≠ h.next + 1 + 1; omega), show h.next + 1 = (h.new (.cells [.int .i64 k.s, .int .i64 k.a, .int .i64 k.c, .int .i64 k.hd, .int .i64 k.g, .int .i64 k.st, s.f, s.h, s.w, s.c, s.g] .rw)).next from rfl, ze]
    · rw [z1h (by show h.next + 1 + 1 ≠ h.next + 1 + 1 + 1; omega), show h.next + 1 + 1 = ((h.new (.cells [.int .i64 k.s, .int .i64 k.a, .int .i64 k.c, .int .i64 k.hd, .int .i64 k.g, .int .i64 k.st, s.f, s.h, s.w, s.c, s.g] .rw)).new (.cells [.int .i64 c.kind, .int .i64 c.n, .int .u64 c.h, .int .u64 c.x, .int .u64 c.y] .rw)).next from rfl, ze]
  generalize ((((h.new (.cells [.int .i64 k.s, .int .i64 k.a, .int .i64 k.c, .int .i64 k.hd, .int .i64 k.g, .int .i64 k.st, s.f, s.h, s.w, s.c, s.g] .rw)).new (.cells [.int .i64 c.kind, .int .i64 c.n, .int .u64 c.h, .int .u64 c.x, .int .u64 c.y] .rw)).new (.cells [.int .i64 a.err, .int .u64 a.h, .bool a.yes] .rw)).new (.cells [.int .i64 0, .int .i64 0, .int .i64 0, .int .i64 0, .int .i64 0, .int .i64 0, .nilsl, .nilsl, .nilsl, .nilsl, .nilsl] .rw)) = g at X F0 ⊢
  generalize h.next + 1 + 1 + 1 = po at X ⊢
  generalize h.next + 1 + 1 = pa at X ⊢
  generalize h.next + 1 = q at X ⊢
  generalize h.next = p at X ⊢
  have lN := X.D.E.lN
  have l2 := X.D.E.l2
  have hst := X.st
  have lNv := lN
  unfold StV.v at lNv
  rw [S.zj5]
  -- no such client
  by_cases w0 : w < 0
  · have d0 : decide (w < 0) = true := decide_eq_true w0
    have hok : okR k r w c a = false := by unfold okR; rw [if_pos (.inl w0)]
    have hd : doR k r w c a = r := by unfold doR zds; rw [hok]; rfl
    rw [hok, hd]
    simp only [S.z24, S.zc4, S.za6, z9, Option.map_some, zo, zy, get_put', zq, Nat.zero_add, Nat.reduceAdd, Nat.reduceLeDiff, z0o, List.length_cons, List.length_nil, Nat.beq_refl, decide_true, if_true, List.take_succ_cons, List.take_zero, List.drop_zero, finV, z2g, z3z, z2n, lNv, hst, d0]
    exact Ev.some (X.fin false)
  have d0 : decide (w < 0) = false := decide_eq_false w0
  by_cases w1 : k.c ≤ w
  · have d1 : decide (k.c ≤ w) = true := decide_eq_true w1
    have hok : okR k r w c a = false := by unfold okR; rw [if_pos (.inr w1)]
    have hd : doR k r w c a = r := by unfold doR zds; rw [hok]; rfl
    rw [hok, hd]
    simp only [S.z24, S.zc4, S.za6, z7, z9, Option.map_some, z8, zo, zy, get_put', zq, Nat.zero_add, Nat.add_zero, Nat.reduceAdd, Nat.reduceLeDiff, z0o, za, List.length_cons, List.length_nil, Nat.beq_refl, decide_true, if_true, List.take_succ_cons, List.take_zero, List.drop_zero, finV, z2g, z3z, z2n, l2, lNv, hst, d0, d1]
    exact Ev.some (X.fin false)
  have d1 : decide (k.c ≤ w) = false := decide_eq_false w1
  have w0' : 0 ≤ w := by omega
  have w1' : w < k.c := by omega
  obtain ⟨⟨v, g1⟩, e1, rfl, F1⟩ := zy0 (k := k) X.D.E.ok X.D.E.Z I B.h w0' w1' c
  dsimp only at F1
  have X1 := X.fr F1
  have hcl := X.D.E.cl
  have han1 := X1.D.an
  have lN1 := X1.D.E.lN
  have hst1 := X1.st
  have lN1v := lN1
  unfold StV.v at lN1v
  have hcl1 := X1.D.E.cl
  unfold CallR.cs at e1
  have npa : ¬ pa = po := fun e => X.lo.2.2.2 e.symm
  by_cases he : errR k r w c = 0
  rotate_left
  · have de : decide (errR k r w c = 0) = false := decide_eq_false he
    have hok : okR k r w c a = (decide (a.err = errR k r w c) && decide (a.h = 0) && !a.yes) := by
      unfold okR
      rw [if_neg (by omega), if_pos he]
    have hd : doR k r w c a = r := by
      unfold doR zds
      rw [de]; simp
    rw [hok, hd]
    generalize errR k r w c = er at e1 de ⊢
    cases d3 : decide (a.err = er) with
    | false =>
      simp only [S.z24, S.z4u, S.z4e, z7, z9, Option.map_some, z8, zo, zy, get_put', z6, zq, List.getElem?_cons_zero, List.getElem?_cons_succ, Nat.zero_add, Nat.add_zero, Nat.reduceAdd, Nat.reduceLeDiff, z23, zf, z0o, za, zw, List.length_cons, List.length_nil, Nat.beq_refl, Bool.false_and, Bool.not_false, decide_true, if_true, List.take_succ_cons, List.take_zero, List.drop_zero, finV, z2g, z3z, z2n, zh, l2, lN, hcl, e1, de, han1, d3, lN1v, hst1, d0, d1]
      exact Ev.some (X1.fin false)
    | true =>
      cases dh : decide (a.h = 0) with
      | false =>
        simp only [S.z24, S.z4u, S.z4e, z7, z9, Option.map_some, z8, zo, zy, get_put', z6, zq, List.getElem?_cons_zero, List.getElem?_cons_succ, Nat.zero_add, Nat.add_zero, Nat.reduceAdd, Nat.reduceLeDiff, z23, zf, z0o, za, zw, List.length_cons, List.length_nil, Nat.beq_refl, Bool.and_false, Bool.false_and, Bool.not_false, decide_true, if_true, List.take_succ_cons, List.take_zero, List.drop_zero, finV, z2g, z3z, z2n, zh, l2, lN, hcl, e1, de, han1, d3, dh, lN1v, hst1, d0, d1]
        exact Ev.some (X1.fin false)
      | true =>
        simp only [S.z24, S.z4u, S.z4e, z7, z9, Option.map_some, z8, zo, zy, get_put', z6, zq, List.getElem?_cons_zero, List.getElem?_cons_succ, Nat.zero_add, Nat.add_zero, Nat.reduceAdd, Nat.reduceLeDiff, z23, zf, z0o, V.beq, z17, za, zw, List.length_cons, List.length_nil, Nat.beq_refl, Bool.true_and, Bool.not_false, Bool.and_self, decide_true, if_true, if_false, List.take_succ_cons, List.take_zero, List.drop_zero, finV, z2g, z3z, z2n, zh, l2, lN, hcl, e1, de, han1, d3, dh, lN1v, hst1, d0, d1, npa, BEq.rfl]
        exact Ev.some (X1.fin _)
  · have de : decide (errR k r w c = 0) = true := decide_eq_true he
    have e1' := e1
    rw [he] at e1'
    obtain ⟨⟨v2, g2⟩, e2, rfl, F2⟩ := zbk (k := k) X1.D.E.ok X1.D.E.Z.h B.h w c.h
    dsimp only at F2
    have X2 := X1.fr F2
    have dz : decide ((0 : Int) = 0) = true := rfl
    simp only [S.z24, S.z4u, S.z4e, z7, z9, z8, zo, zy, z6, zq, List.getElem?_cons_zero, List.getElem?_cons_succ, Nat.zero_add, Nat.add_zero, Nat.reduceAdd, Nat.reduceLeDiff, zf, za, List.length_cons, List.length_nil, Bool.not_true, decide_true, List.take_succ_cons, List.take_zero, List.drop_zero, finV, z2g, z3z, z2n, zh, l2, lN, hcl, e1', lN1, hcl1, e2, d0, d1]
    exact z01n X2 I B ka w0' w1' he
end
def rst0 (k : Cfg) : RSt := ⟨[], [], List.replicate k.C 0, List.replicate k.C [], []⟩
theorem z01e (k : Cfg) : RIn k (rst0 k) := by
  refine ⟨List.length_replicate, List.length_replicate, by simp [rst0], by simp [rst0], List.Pairwise.nil, fun l hl n hn => ?_, fun h hh => ?_, by simp [rst0]⟩
  · have := (List.mem_replicate.mp hl).2
    subst this; cases hn
  · have := (List.mem_replicate.mp hh).2
    subst this; exact ⟨by decide, by decide⟩
theorem z012 (k : Cfg) : RSz k 0 (rst0 k) := ⟨Nat.le_refl _, by simp [rst0], Nat.le_refl _, Nat.le_refl _⟩
theorem z00q (n : Nat) : z1n (List.replicate n 0) (List.replicate n .nilsl) = repl [.int .u64 0, .nilsl] n := by
  induction n with
  | zero => rfl
  | succ n ih => simp only [List.replicate_succ, z1n, repl, ih, List.cons_append, List.nil_append]
theorem zvj {α : Type} {n i : Nat} {x y : α} (h : (List.replicate n x)[i]? = some y) : y = x := by
  have := List.mem_of_getElem? h
  exact (List.mem_replicate.mp this).2
structure NwAt (k : Cfg) (h g : H) (b bw gm : Nat) (x : V) (ms : List Nat) : Prop where
  fr : Fr [] h g
  own : g.get b = some (.cells [.int .i64 k.s, .int .i64 k.a, .int .i64 k.c, .int .i64 k.hd, .int .i64 k.g, .int .i64 k.st, .nilsl, x, .sl bw 0 k.C (.ex k.C), .map gm] .rw)
  w : g.get bw = some (.cells (repl [.int .u64 0, .nilsl] k.C) .rw)
  gv : g.get gm = some (.map [])
  lo : h.next ≤ bw ∧ bw < gm ∧ gm < b
  gx : Grown g.get x 1 (ms.map .map)
  xb : ∀ a ∈ x.blk, b < a
  ml : ∀ m ∈ ms, b < m ∧ g.get m = some (.map []) ∧ m ∉ x.blk
  nd : ms.Nodup
theorem z020 {k : Cfg} (hr : k.R = true) {h : H} (ok : h.ok) : Ev (C 96 [k.v] h) fun z => ∃ B, z.1 = .ptr B.b 0 ∧ Fr [] h z.2 ∧ MdAt k z.2.get B (rst0 k) ∧ (∀ x ∈ B.l, h.next ≤ x) ∧ B.nb = [] := by
  refine z1y (af := F.z9l) (by kernel_rfl) rfl ?_
  have hv : k.v = .agg [.int .i64 k.s, .int .i64 k.a, .int .i64 k.c, .int .i64 k.hd, .int .i64 k.g, .int .i64 k.st] := rfl
  rw [hv, S.zz6]
  simp only [S.z9l]
  have hB := Cfg.R_iff.mp hr
  have hC : (k.C : Int) = k.c := by unfold Cfg.C; omega
  have hC8 := (Cfg.bounds hr).2.2.1
  have hR := fun h => zie k.s k.a k.c k.hd k.g k.st h
  rw [show cfgR k.s k.a k.c k.hd k.g k.st = k.R from rfl, hr, show cfgV k.s k.a k.c k.hd k.g k.st = k.v from rfl, hv] at hR
  have F0 : Fr [] h (h.new (.cells [.int .i64 k.s, .int .i64 k.a, .int .i64 k.c, .int .i64 k.hd, .int .i64 k.g, .int .i64 k.st] .rw)) := (Fr.refl ok).new _
  have hp := ze h (.cells [.int .i64 k.s, .int .i64 k.a, .int .i64 k.c, .int .i64 k.hd, .int .i64 k.g, .int .i64 k.st] .rw)
  have hn0 : (h.new (.cells [.int .i64 k.s, .int .i64 k.a, .int .i64 k.c, .int .i64 k.hd, .int .i64 k.g, .int .i64 k.st] .rw)).next = h.next + 1 := rfl
  generalize (h.new (.cells [.int .i64 k.s, .int .i64 k.a, .int .i64 k.c, .int .i64 k.hd, .int .i64 k.g, .int .i64 k.st] .rw)) = g at F0 hp hn0 ⊢
  have hmk := zgc (h := g) (e := 2) (b := 32) (z := [V.int .u64 0, .nilsl]) (l := k.c) (c := k.c) (by omega) (Int.le_refl _) (by omega) (by omega) rfl (by decide)
  rw [show k.c.toNat = k.C from rfl, hn0] at hmk
  have F1 : Fr [] g (g.new (.cells (repl [.int .u64 0, .nilsl] k.C) .rw)) := (Fr.refl F0.ok).new _
  have hw := ze g (.cells (repl [.int .u64 0, .nilsl] k.C) .rw)
  have hn1 : (g.new (.cells (repl [.int .u64 0, .nilsl] k.C) .rw)).next = h.next + 2 := by rw [H.next_new, hn0]
  have hp1 := F1.get F0.ok hp (by simp)
  rw [hn0] at hw
  generalize (g.new (.cells (repl [.int .u64 0, .nilsl] k.C) .rw)) = g1 at F1 hmk hw hn1 hp1 ⊢
  have F2 : Fr [] g1 (g1.new (.map [])) := (Fr.refl F1.ok).new _
  have hgm := ze g1 (.map [])
  have hn2 : (g1.new (.map [])).next = h.next + 3 := by rw [H.next_new, hn1]
  have hp2 := F2.get F1.ok hp1 (by simp)
  have hw2 := F2.get F1.ok hw (by simp)
  rw [hn1] at hgm
  have hld6 : g.ldN 6 (.ptr h.next 0) = some (.agg [.int .i64 k.s, .int .i64 k.a, .int .i64 k.c, .int .i64 k.hd, .int .i64 k.g, .int .i64 k.st]) := by rw [zd6 hp (by simp)]; rfl
  have hld2 : g.ld1 (.ptr h.next 2) = some (.int .i64 k.c) := z8a hp rfl rfl
  have ne1 : ∀ v : V, (asI .i64 (.int .i64 k.c)) = some k.c := fun _ => za _ _
  have hfill : fill [.int .i64 0, .int .i64 0, .int .i64 0, .int .i64 0, .int .i64 0, .int .i64 0, .nilsl, .nilsl, .nilsl, .nilmap] [] [(0, 6, .c (.agg [.int .i64 k.s, .int .i64 k.a, .int .i64 k.c, .int .i64 k.hd, .int .i64 k.g, .int .i64 k.st])), (8, 1, .c (.sl (h.next + 1) 0 k.C (.ex k.C))), (9, 1, .c (.map (h.next + 2)))] = some [.int .i64 k.s, .int .i64 k.a, .int .i64 k.c, .int .i64 k.hd, .int .i64 k.g, .int .i64 k.st, .nilsl, .nilsl, .sl (h.next + 1) 0 k.C (.ex k.C), .map (h.next + 2)] := rfl
  simp only [hld6, hR, hld2, z9, zh, zw, za, Bool.not_true, hmk, hn1, hfill, z9q]
  generalize hgg : (g1.new (.map [])) = g2 at F2 hgm hn2 hp2 hw2 ⊢
  have F3 : Fr [] g2 (g2.new (.cells [.int .i64 k.s, .int .i64 k.a, .int .i64 k.c, .int .i64 k.hd, .int .i64 k.g, .int .i64 k.st, .nilsl, .nilsl, .sl (h.next + 1) 0 k.C (.ex k.C), .map (h.next + 2)] .rw)) := (Fr.refl F2.ok).new _
  have hb3 := ze g2 (.cells [.int .i64 k.s, .int .i64 k.a, .int .i64 k.c, .int .i64 k.hd, .int .i64 k.g, .int .i64 k.st, .nilsl, .nilsl, .sl (h.next + 1) 0 k.C (.ex k.C), .map (h.next + 2)] .rw)
  have hp3 := F3.get F2.ok hp2 (by simp)
  have hw3 := F3.get F2.ok hw2 (by simp)
  have hg3 := F3.get F2.ok hgm (by simp)
  rw [hn2] at hb3
  have hld3 : (g2.new (.cells [.int .i64 k.s, .int .i64 k.a, .int .i64 k.c, .int .i64 k.hd, .int .i64 k.g, .int .i64 k.st, .nilsl, .nilsl, .sl (h.next + 1) 0 k.C (.ex k.C), .map (h.next + 2)] .rw)).ld1 (.ptr h.next 2) = some (.int .i64 k.c) := z8a hp3 rfl rfl
  rw [hn2]
  simp only [hld3, z9]
  have F03 : Fr [] h (g2.new (.cells [.int .i64 k.s, .int .i64 k.a, .int .i64 k.c, .int .i64 k.hd, .int .i64 k.g, .int .i64 k.st, .nilsl, .nilsl, .sl (h.next + 1) 0 k.C (.ex k.C), .map (h.next + 2)] .rw)) := ((F0.trans' F1).trans' F2).trans' F3
  generalize (g2.new (.cells [.int .i64 k.s, .int .i64 k.a, .int .i64 k.c, .int .i64 k.hd, .int .i64 k.g, .int .i64 k.st, .nilsl, .nilsl, .sl (h.next + 1) 0 k.C (.ex k.C), .map (h.next + 2)] .rw)) = g3 at F03 hb3 hw3 hg3 ⊢
  have N0 : NwAt k h g3 (h.next + 3) (h.next + 1) (h.next + 2) .nilsl [] := ⟨F03, hb3, hw3, hg3, ⟨by omega, by omega, by omega⟩, Grown.nil _ _, by simp [V.blk], by simp, List.nodup_nil⟩
  generalize h.next + 3 = b at N0 ⊢
  generalize h.next + 1 = bw at N0
  generalize h.next + 2 = gm at N0
  refine z32 (α := Nat) (fun i => S.zf5 (.ptr b 0) (.int .i64 k.c) (.int .i64 (i : Nat)))
    (fun i g' => i ≤ k.C ∧ ∃ x ms, NwAt k h g' b bw gm x ms ∧ ms.length = i) (fun i _ => k.C - i)
    (fun z => z.1 = .exit 0 ∧ z.2.1 = S.zi1 (.ptr b 0) ∧ ∃ x ms, NwAt k h z.2.2 b bw gm x ms ∧ ms.length = k.C) 0 rfl ⟨Nat.zero_le _, .nilsl, [], N0, rfl⟩ ?_ ?_
  rotate_left
  · rintro ⟨_, _, g'⟩ ⟨rfl, rfl, x, ms, N, hl⟩
    show Ev (S.zng W (.exit 0) _ _) _
    rw [S.zt8]
    dsimp only at N
    obtain ⟨bh, hx, hbh⟩ : ∃ bh, x = .sl bh 0 k.C (.op 1) ∧ g'.get bh = some (.cells (ms.map .map) (.gr 1)) := by
      obtain ⟨_, h0⟩ | ⟨bh, n, hx, hn, hb⟩ := N.gx
      · have := congrArg List.length h0
        rw [List.length_map, hl] at this
        simp at this; omega
      · rw [List.length_map, hl, Nat.mul_one] at hn
        rw [← hn] at hx
        exact ⟨bh, hx, hb⟩
    subst hx
    have hbx := N.xb bh (by simp [V.blk])
    have hlo := N.lo
    have hml := N.ml
    refine Ev.some ⟨⟨b, .nilsl, [], [], bh, ms, bw, List.replicate k.C .nilsl, gm, true⟩, rfl, N.fr, ?_, ?_, ?_⟩
    · refine ⟨?_, ?_, N.own, Grown.nil _ _, ⟨rfl, rfl⟩, by simp, hbh, hl, fun i m hm => (hml m (List.mem_of_getElem? hm)).2.1, ?_, ⟨List.length_replicate, List.length_replicate, List.length_replicate⟩, fun i v l h1 h2 => ?_, N.gv⟩
      · show (b :: bh :: bw :: gm :: (ms ++ (V.nilsl.blk ++ []))).Nodup
        have e : V.nilsl.blk ++ ([] : List Nat) = [] := rfl
        rw [e, List.append_nil, List.nodup_cons, List.nodup_cons, List.nodup_cons, List.nodup_cons]
        refine ⟨fun q => ?_, fun q => ?_, fun q => ?_, fun q => ?_, N.nd⟩
        · simp only [List.mem_cons] at q
          rcases q with q | q | q | q
          · omega
          · omega
          · omega
          · have := (hml b q).1; omega
        · simp only [List.mem_cons] at q
          rcases q with q | q | q
          · omega
          · omega
          · exact (hml bh q).2.2 (by simp [V.blk])
        · simp only [List.mem_cons] at q
          rcases q with q | q
          · omega
          · have := (hml bw q).1; omega
        · have := (hml gm q).1; omega
      · intro y hy
        have : y ∈ ((List.replicate k.C V.nilsl).map V.blk).flatten := hy
        rw [List.map_replicate] at this
        obtain ⟨lb, h1, h2⟩ := List.mem_flatten.mp this
        rw [(List.mem_replicate.mp h1).2] at h2
        cases h2
      · show g'.get bw = some (.cells (z1n (List.replicate k.C 0) (List.replicate k.C .nilsl)) .rw)
        rw [z00q]; exact N.w
      · have e1 := zvj h1
        have e2 := zvj h2
        subst e1; subst e2
        exact .inl ⟨rfl, rfl⟩
    · intro y hy
      have hy' : y ∈ b :: bh :: bw :: gm :: (ms ++ (V.nilsl.blk ++ [])) := hy
      have e : V.nilsl.blk ++ ([] : List Nat) = [] := rfl
      rw [e, List.append_nil] at hy'
      simp only [List.mem_cons] at hy'
      rcases hy' with q | q | q | q | q
      · omega
      · omega
      · omega
      · omega
      · have := (hml y q).1; omega
    · show ((List.replicate k.C V.nilsl).map V.blk).flatten = []
      rw [List.map_replicate, show V.nilsl.blk = [] from rfl]
      have : ∀ n : Nat, (List.replicate n ([] : List Nat)).flatten = [] := fun n => by
        induction n with
        | zero => rfl
        | succ n ih => rw [List.replicate_succ, List.flatten_cons, ih]; rfl
      exact this _
  rintro i g' ⟨hi, x, ms, N, hl⟩
  rw [S.zw2]
  by_cases hic : i < k.C
  · have d : decide ((i : Int) < k.c) = true := decide_eq_true (by omega)
    have ox := N.gx.slv.one
    have hown := N.own
    have ok' := N.fr.ok
    have Fa : Fr [] g' (g'.new (.map [])) := (Fr.refl ok').new _
    have Fb : Fr [] (g'.new (.map [])) ((g'.new (.map [])).new (.cells [.map g'.next] .rw)) := (Fr.refl Fa.ok).new _
    have Fab := Fa.trans' Fb
    obtain ⟨x', g2', e2, F2', G2, hx', _⟩ := Grown.push Fb.ok (bytes := 8) (N.gx.fr ok' Fab (by simp)) (ze (g'.new (.map [])) _) (e := 1) rfl rfl (by decide) ⟨by decide, by decide⟩ (by rw [List.length_map]; omega)
    have hnx : (g'.new (.map [])).next = g'.next + 1 := rfl
    rw [hnx] at e2
    have hbx : b ∉ x.blk := fun q => by have := N.xb _ q; omega
    have hown2 := F2'.get Fb.ok (Fab.get ok' hown (by simp)) hbx
    have ox' := G2.slv.one
    have ox2 := G2.slv.cells
    have hbl : b < g2'.next := F2'.ok.lt hown2
    have hxn : ∀ a ∈ x'.blk, g'.next ≤ a := fun a ha => Nat.le_trans Fab.le (hx' a ha)
    have hxn2 : ∀ a ∈ x'.blk, g'.next + 2 ≤ a := fun a ha => by have := hx' a ha; rw [H.next_new, H.next_new] at this; omega
    have hbl' : b < g'.next := ok'.lt hown
    have wi := zf6 (i := i) (by omega)
    simp only [S.zid, zi, z7, z9, Option.map_some, z8, zy, z6, z0e, H.next_new, List.getElem?_cons_zero, List.getElem?_cons_succ, Nat.zero_add, Nat.reduceAdd, Nat.reduceLeDiff, List.length_cons, List.length_nil, Nat.beq_refl, List.all_cons, List.all_nil, Bool.not_true, Bool.or_self, Bool.and_self, decide_true, decide_false, z02, List.take_succ_cons, List.take_zero, List.drop_succ_cons, List.drop_zero, List.cons_append, List.nil_append, reduceCtorEq, zi, d, hown, ox, e2, hown2, ox', ox2, wi]
    have keep : ∀ a, a < g'.next → a ≠ b → a ∉ x.blk → (g2'.put b (some (.cells [.int .i64 k.s, .int .i64 k.a, .int .i64 k.c, .int .i64 k.hd, .int .i64 k.g, .int .i64 k.st, .nilsl, x', .sl bw 0 k.C (.ex k.C), .map gm] .rw))).get a = g'.get a := fun a h1 h2 h3 => by
      rw [zj h2, F2'.same a (by have := Fab.le; omega) h3, Fab.same a h1 (by simp)]
    have hlo := N.lo
    have hnl : h.next ≤ b := by omega
    refine Ev.some (.inl ⟨i + 1, rfl, rfl, ⟨hic, x', ms ++ [g'.next], ⟨?_, zs _ _ _, ?_, ?_, hlo, ?_, fun a ha => by have := hxn a ha; omega, fun m hm => ?_, ?_⟩, by rw [List.length_append, hl]; rfl⟩, Nat.sub_lt_sub_left hic (Nat.lt_succ_self i)⟩)
    · exact ((N.fr.trans' Fab).trans F2' (fun a ha => .inr (by have := N.xb a ha; omega))).put (.inr hnl) hbl _
    · rw [keep bw (ok'.lt N.w) (by omega) (fun q => by have := N.xb _ q; omega)]; exact N.w
    · rw [keep gm (ok'.lt N.gv) (by omega) (fun q => by have := N.xb _ q; omega)]; exact N.gv
    · rw [List.map_append]
      exact G2.congr fun a ha => zj (by have := hxn a ha; omega)
    · rcases List.mem_append.mp hm with q | q
      · obtain ⟨h1, h2, h3⟩ := N.ml m q
        exact ⟨h1, by rw [keep m (ok'.lt h2) (by omega) h3]; exact h2, fun q => by have := hxn _ q; have := ok'.lt h2; omega⟩
      · simp only [List.mem_singleton] at q
        subst q
        refine ⟨hbl', ?_, fun q => by have := hxn2 _ q; omega⟩
        have hnb : g'.next ∉ x.blk := fun q => by have := N.gx.lt ok' _ q; omega
        rw [zj (by omega), F2'.same _ (by have := Fb.le; rw [hnx] at this; omega) hnb, Fb.same _ (by rw [hnx]; omega) (by simp), ze]
    · rw [List.nodup_append]
      refine ⟨N.nd, by simp, fun u hu v hv e => ?_⟩
      simp only [List.mem_singleton] at hv
      have := ok'.lt (N.ml u hu).2.1
      omega
  · have hie : i = k.C := by omega
    subst hie
    have d : decide (((k.C : Nat) : Int) < k.c) = false := decide_eq_false (by omega)
    simp only [S.zid, d]
    exact Ev.some (.inr ⟨by simp, rfl, rfl, x, ms, N, hl⟩)
theorem z05c (n : Nat) : repl [V.nilsl] n = List.replicate n .nilsl := by
  induction n with
  | zero => rfl
  | succ n ih => simp only [repl, ih, List.replicate_succ, List.cons_append, List.nil_append]
theorem z04p (n : Nat) : repl [V.int .u64 0] n = (List.replicate n (0 : Int)).map (.int .u64) := by
  induction n with
  | zero => rfl
  | succ n ih => simp only [repl, ih, List.replicate_succ, List.map_cons, List.cons_append, List.nil_append]
theorem z009 {k : Cfg} (hr : k.R = true) {h : H} (ok : h.ok) (g0 : Nat → Option Blk) : Ev (C 99 [k.v] h) fun z => ∃ s, z.1 = s.v k ∧ Fr [] h z.2 ∧ StAt (ug g0 h z.2) s (rst0 k) := by
  refine z1y (af := F.z6r) (by kernel_rfl) rfl ?_
  have hv : k.v = .agg [.int .i64 k.s, .int .i64 k.a, .int .i64 k.c, .int .i64 k.hd, .int .i64 k.g, .int .i64 k.st] := rfl
  rw [hv, S.zu8]
  simp only [S.z6r]
  have hB := Cfg.R_iff.mp hr
  have F0 : Fr [] h ((h.new (.cells [.int .i64 k.s, .int .i64 k.a, .int .i64 k.c, .int .i64 k.hd, .int .i64 k.g, .int .i64 k.st] .rw)).new (.cells [.int .i64 0, .int .i64 0, .int .i64 0, .int .i64 0, .int .i64 0, .int .i64 0, .nilsl, .nilsl, .nilsl, .nilsl, .nilsl] .rw)) := ((Fr.refl ok).new _).new _
  have hp : ((h.new (.cells [.int .i64 k.s, .int .i64 k.a, .int .i64 k.c, .int .i64 k.hd, .int .i64 k.g, .int .i64 k.st] .rw)).new (.cells [.int .i64 0, .int .i64 0, .int .i64 0, .int .i64 0, .int .i64 0, .int .i64 0, .nilsl, .nilsl, .nilsl, .nilsl, .nilsl] .rw)).get h.next = some (.cells [.int .i64 k.s, .int .i64 k.a, .int .i64 k.c, .int .i64 k.hd, .int .i64 k.g, .int .i64 k.st] .rw) := by
    rw [z1h (Nat.ne_of_lt (Nat.lt_succ_self _)), ze]
  have hp2 : ((h.new (.cells [.int .i64 k.s, .int .i64 k.a, .int .i64 k.c, .int .i64 k.hd, .int .i64 k.g, .int .i64 k.st] .rw)).new (.cells [.int .i64 0, .int .i64 0, .int .i64 0, .int .i64 0, .int .i64 0, .int .i64 0, .nilsl, .nilsl, .nilsl, .nilsl, .nilsl] .rw)).get (h.next + 1) = some (.cells [.int .i64 0, .int .i64 0, .int .i64 0, .int .i64 0, .int .i64 0, .int .i64 0, .nilsl, .nilsl, .nilsl, .nilsl, .nilsl] .rw) := ze _ _
  have hn0 : (h.new (.cells [.int .i64 k.s, .int .i64 k.a, .int .i64 k.c, .int .i64 k.hd, .int .i64 k.g, .int .i64 k.st] .rw)).next = h.next + 1 := rfl
  have hn1 : ((h.new (.cells [.int .i64 k.s, .int .i64 k.a, .int .i64 k.c, .int .i64 k.hd, .int .i64 k.g, .int .i64 k.st] .rw)).new (.cells [.int .i64 0, .int .i64 0, .int .i64 0, .int .i64 0, .int .i64 0, .int .i64 0, .nilsl, .nilsl, .nilsl, .nilsl, .nilsl] .rw)).next = h.next + 2 := rfl
  rw [hn0]
  generalize ((h.new (.cells [.int .i64 k.s, .int .i64 k.a, .int .i64 k.c, .int .i64 k.hd, .int .i64 k.g, .int .i64 k.st] .rw)).new (.cells [.int .i64 0, .int .i64 0, .int .i64 0, .int .i64 0, .int .i64 0, .int .i64 0, .nilsl, .nilsl, .nilsl, .nilsl, .nilsl] .rw)) = g at F0 hp hp2 hn1 ⊢
  have hmk := zgc (h := g) (e := 1) (b := 8) (z := [V.int .u64 0]) (l := k.c) (c := k.c) (by omega) (Int.le_refl _) (by omega) (by omega) rfl (by decide)
  rw [show k.c.toNat = k.C from rfl, hn1, z04p] at hmk
  have F1 : Fr [] g (g.new (.cells ((List.replicate k.C (0 : Int)).map (.int .u64)) .rw)) := (Fr.refl F0.ok).new _
  have hw := ze g (.cells ((List.replicate k.C (0 : Int)).map (.int .u64)) .rw)
  rw [hn1] at hw
  have hn2 : (g.new (.cells ((List.replicate k.C (0 : Int)).map (.int .u64)) .rw)).next = h.next + 3 := by rw [H.next_new, hn1]
  have hp21 := F1.get F0.ok hp2 (by simp)
  generalize (g.new (.cells ((List.replicate k.C (0 : Int)).map (.int .u64)) .rw)) = g1 at F1 hw hn2 hmk hp21
  have hmk2 := zgc (h := g1) (e := 1) (b := 24) (z := [V.nilsl]) (l := k.c) (c := k.c) (by omega) (Int.le_refl _) (by omega) (by omega) rfl (by decide)
  rw [show k.c.toNat = k.C from rfl, hn2, z05c] at hmk2
  have F2 : Fr [] g1 (g1.new (.cells (List.replicate k.C .nilsl) .rw)) := (Fr.refl F1.ok).new _
  have hc2 := ze g1 (.cells (List.replicate k.C .nilsl) .rw)
  rw [hn2] at hc2
  have hw2 := F2.get F1.ok hw (by simp)
  have hp22 := F2.get F1.ok hp21 (by simp)
  generalize (g1.new (.cells (List.replicate k.C .nilsl) .rw)) = g2 at F2 hc2 hmk2 hw2 hp22
  have hld6 : g.ldN 6 (.ptr h.next 0) = some (.agg [.int .i64 k.s, .int .i64 k.a, .int .i64 k.c, .int .i64 k.hd, .int .i64 k.g, .int .i64 k.st]) := by rw [zd6 hp (by simp)]; rfl
  have hld2 : g.ld1 (.ptr h.next 2) = some (.int .i64 k.c) := z8a hp rfl rfl
  have hfill : fill [.int .i64 0, .int .i64 0, .int .i64 0, .int .i64 0, .int .i64 0, .int .i64 0, .nilsl, .nilsl, .nilsl, .nilsl, .nilsl] [] [(0, 6, .c (.agg [.int .i64 k.s, .int .i64 k.a, .int .i64 k.c, .int .i64 k.hd, .int .i64 k.g, .int .i64 k.st])), (8, 1, .c (.sl (h.next + 2) 0 k.C (.ex k.C))), (9, 1, .c (.sl (h.next + 3) 0 k.C (.ex k.C)))] = some [.int .i64 k.s, .int .i64 k.a, .int .i64 k.c, .int .i64 k.hd, .int .i64 k.g, .int .i64 k.st, .nilsl, .nilsl, .sl (h.next + 2) 0 k.C (.ex k.C), .sl (h.next + 3) 0 k.C (.ex k.C), .nilsl] := rfl
  simp only [hld6, hld2, z9, za, hmk, hmk2, hfill]
  have F02 := (F0.trans' F1).trans' F2
  simp only [z9, Option.map_some, zo, zy, get_put', zq, z0e, Nat.zero_add, Nat.reduceAdd, Nat.reduceLeDiff, zf, zd4, z4j, z0o, List.length_cons, List.length_nil, Nat.beq_refl, List.all_cons, List.all_nil, Bool.not_true, Bool.or_self, Bool.and_self, decide_true, decide_false, if_true, z02, List.take_succ_cons, List.take_zero, List.drop_succ_cons, List.drop_zero, List.cons_append, List.nil_append, reduceCtorEq, finV, z2g, z3z, z2n, hp22]
  refine Ev.some ⟨⟨.nilsl, .nilsl, .sl (h.next + 2) 0 k.C (.ex k.C), .sl (h.next + 3) 0 k.C (.ex k.C), .nilsl⟩, rfl, F02.put (.inr (Nat.le_succ _)) (F2.ok.lt hp22) _, ⟨.inl ⟨rfl, rfl⟩, .inl ⟨rfl, rfl⟩, ?_, ?_, .inl ⟨rfl, rfl⟩⟩⟩
  · refine .inr ⟨h.next + 2, 0, .ex k.C, .rw, (List.replicate k.C (0 : Int)).map (.int .u64), ?_, ?_, ?_, ?_, .inr ⟨k.C, rfl, ?_⟩⟩
    · show V.sl (h.next + 2) 0 k.C (.ex k.C) = .sl (h.next + 2) 0 (List.replicate k.C (0 : Int)).length (.ex k.C)
      rw [List.length_replicate]
    · rw [z3x (by omega), zj (by omega)]; exact hw2
    · rw [List.drop_zero, List.take_of_length_le (by rw [List.length_map]; exact Nat.le_refl _)]; rfl
    · rw [List.length_map]
      show 0 + (List.replicate k.C (0 : Int)).length ≤ _
      omega
    · show (List.replicate k.C (0 : Int)).length ≤ k.C
      rw [List.length_replicate]; exact Nat.le_refl _
  · refine .inr ⟨h.next + 3, .ex k.C, .rw, List.replicate k.C .nilsl, ?_, ?_, ?_, fun i v l h1 h2 => ?_⟩
    · show V.sl (h.next + 3) 0 k.C (.ex k.C) = .sl (h.next + 3) 0 (List.replicate k.C ([] : List Int)).length (.ex k.C)
      rw [List.length_replicate]
    · rw [z3x (by omega), zj (by omega)]; exact hc2
    · rw [List.length_replicate]
      show k.C = (List.replicate k.C ([] : List Int)).length
      rw [List.length_replicate]
    · have e1 := zvj h1
      have e2 := zvj h2
      subst e1; subst e2
      exact .inl ⟨rfl, rfl⟩
end Wm
end
