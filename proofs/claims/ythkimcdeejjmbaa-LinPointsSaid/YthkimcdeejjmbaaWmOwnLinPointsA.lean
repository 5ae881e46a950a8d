/- What the functions come to, and the law: of my machine. -/
import Derived.Test.YthkimcdeejjmbaaWmProgLinPoints
import Derived.Test.YthkimcdeejjmbaaWmTxtLinPointsA
import Derived.KernelRfl
import Derived.Test.YthkimcdeejjmbaaWmShal
import Derived.Test.YthkimcdeejjmbaaWmCore
import Derived.Test.YthkimcdeejjmbaaWmEv
import Derived.Test.YthkimcdeejjmbaaWmHeap
import Derived.Test.YthkimcdeejjmbaaWmPOp0
import Derived.Test.YthkimcdeejjmbaaWmOpen
import Derived.Test.YthkimcdeejjmbaaWmFast
import Derived.Test.YthkimcdeejjmbaaWmTxtLinPointsB
set_option linter.all false
noncomputable section
namespace Wm
theorem z057 (x lo hi : Int) (h : H) : C 376 [.int .i64 x, .int .i64 lo, .int .i64 hi] h = some (.bool (decide (lo ≤ x) && decide (x ≤ hi)), h) := by
  refine zb6 (af := F.zbf) (by kernel_rfl) rfl (by rfl) (by rfl) h ?_
  rw [S.zzf]
  unfold S.zbf
  by_cases h1 : lo ≤ x <;> simp [h1, Ev.iff_some]
def cfgV (s a c hd g st : Int) : V := .agg [.int .i64 s, .int .i64 a, .int .i64 c, .int .i64 hd, .int .i64 g, .int .i64 st]
def cfgR (s a c hd g st : Int) : Bool := (decide (1 ≤ s) && decide (s ≤ 64)) && (decide (0 ≤ a) && decide (a ≤ 8)) && (decide (1 ≤ c) && decide (c ≤ 8)) && (decide (1 ≤ hd) && decide (hd ≤ 16)) && (decide (1 ≤ g) && decide (g ≤ 1048576)) && (decide (0 ≤ st) && decide (st ≤ 64))
theorem z0d9 {h : H} {cs : List V} {k : Bk} (o : Nat) : (h.new (.cells cs k)).ld1 (.ptr h.next o) = match cs[o]? with
    | some v => match V.one v with
      | true => some v
      | false => none
    | none => none := by
  simp only [H.ld1, zp]; rfl
theorem zpa (s a c hd g st : Int) (h : H) : C 263 [cfgV s a c hd g st] h = some (.bool (cfgR s a c hd g st), h) := by
  refine zb6 (af := F.zeb) (by kernel_rfl) rfl (by rfl) (by rfl) h ?_
  unfold cfgV
  rw [S.z03l]
  simp only [S.zeb, z0d9, V.one, List.getElem?_cons_zero, List.getElem?_cons_succ, Option.bind_some, zh, z057]
  unfold cfgR
  generalize (decide (1 ≤ s) && decide (s ≤ 64)) = b1
  generalize (decide (0 ≤ a) && decide (a ≤ 8)) = b2
  generalize (decide (1 ≤ c) && decide (c ≤ 8)) = b3
  generalize (decide (1 ≤ hd) && decide (hd ≤ 16)) = b4
  generalize (decide (1 ≤ g) && decide (g ≤ 1048576)) = b5
  cases b1 <;> cases b2 <;> cases b3 <;> cases b4 <;> cases b5 <;> simp [Ev.iff_some]
theorem z0b6 {s a c hd g st : Int} : cfgR s a c hd g st = true ↔ (1 ≤ s ∧ s ≤ 64) ∧ (0 ≤ a ∧ a ≤ 8) ∧ (1 ≤ c ∧ c ≤ 8) ∧ (1 ≤ hd ∧ hd ≤ 16) ∧ (1 ≤ g ∧ g ≤ 1048576) ∧ (0 ≤ st ∧ st ≤ 64) := by
  simp only [cfgR, Bool.and_eq_true, decide_eq_true_eq, and_assoc]
theorem ztf {h : H} {e b : Nat} {z : List V} {l c : Int} (h1 : 0 ≤ l) (h2 : l ≤ c) (h3 : c * b ≤ 140737488355328) (h4 : c ≤ 9223372036854775807) (h5 : z.length = e) (h6 : 0 < e) :
    h.mkSl e b z l c = some (.sl h.next 0 l.toNat (.ex c.toNat), h.new (.cells (repl z c.toNat) .rw)) := by
  subst h5
  simp [H.mkSl, h1, h2, h3, h4, h6]
theorem z01u {h : H} {e b bb o len n : Nat} {x : V} {new old cs : List V} (hx : lenSl x = some n) (hn : h.slc e x = some new) (ho : h.slc e (.sl bb o len (.op e)) = some old) (hg : h.get bb = some (.cells cs (.gr e))) (h1 : new.all V.one = true) (h2 : (len + n + (len + n) / 2 + 1000) * b ≤ 281474976710656) (he : 0 < e) (hb : 0 < b) :
    h.append e b (.sl bb o len (.op e)) x = some (.sl h.next 0 (len + n) (.op e), (h.put bb none).new (.cells (old ++ new) (.gr e))) := by
  have h3 : lenSl (.sl bb o len (.op e)) = some len := rfl
  simp only [H.append, hx, hn, h3, ho, h1, h2, he, hb, decide_true, Bool.and_self, hg, Nat.beq_refl]
theorem append_nil {h : H} {e b n : Nat} {x : V} {new : List V} (hx : lenSl x = some n) (hn : h.slc e x = some new) (h0 : n ≠ 0) (h1 : new.all V.one = true) (h2 : (n + n / 2 + 1000) * b ≤ 281474976710656) (he : 0 < e) (hb : 0 < b) :
    h.append e b .nilsl x = some (.sl h.next 0 n (.op e), h.new (.cells new (.gr e))) := by
  have h3 : lenSl .nilsl = some 0 := rfl
  have h4 : h.slc e .nilsl = some [] := rfl
  have h5 : Nat.beq n 0 = false := by cases n with
    | zero => exact absurd rfl h0
    | succ n => rfl
  simp only [H.append, hx, hn, h3, h4, h1, h2, he, hb, decide_true, Bool.and_self, Nat.zero_add, h5, List.nil_append]
theorem zfp {h : H} {e bb o len : Nat} {cap : Cap} {cs : List V} {k : Bk} (hg : h.get bb = some (.cells cs k)) (hl : o + len * e ≤ cs.length) : h.slc e (.sl bb o len cap) = some ((cs.drop o).take (len * e)) := by
  simp only [H.slc, zy5 hg hl]
theorem zl9 {h : H} {b o : Nat} {cs : List V} {k : Bk} {v : V} (hb : h.get b = some (.cells cs k)) (hk : k ≠ .ro) (hv : v.one = true) (hl : o < cs.length) : h.st 1 (.ptr b o) v = some (h.put b (some (.cells (cs.set o v) k))) := by
  have hc : v.cells = [v] := by cases v <;> first | rfl | simp [V.one] at hv
  have hs : z0e cs o [v] = cs.set o v := by
    simp only [z0e, List.length_singleton]
    rw [List.set_eq_take_append_cons_drop, if_pos hl]
    simp
  have h6 := zxt hb hk (vs := [v]) (by simp [hv]) (show o + [v].length ≤ cs.length by simp; omega)
  rw [hs] at h6
  simp only [H.st, hc, List.length_singleton, Nat.beq, h6]
theorem z0j {α : Type} {call : Nat → List V → H → Option (V × H)} {meth : Nat → Nat → Option Nat} {b : List V → H → Option (AX × List V × H)} {R : Type} {k : AX × List V × H → Option R} {Q : R → Prop} {e : List V} {h : H} (enc : α → List V) (I : α → H → Prop) (μ : α → H → Nat) (P : AX × List V × H → Prop) (a : α) (he : e = enc a) (h0 : I a h)
    (step : ∀ a h, I a h → Ev (b (enc a) h) fun r => (∃ a', r.1 = .normal ∧ r.2.1 = enc a' ∧ I a' r.2.2 ∧ μ a' r.2.2 < μ a h) ∨ (r.1 ≠ .normal ∧ P r)) (out : ∀ r, P r → Ev (k r) Q) : Ev (((envW meth call).loop b e h).bind k) Q := by
  subst he
  exact Ev.bind (z0bn enc I μ step a h h0) out
theorem z08g {b o n e : Nat} {c : Cap} {i : Int} {k : Go.IntKind} (h0 : 0 ≤ i) (h1 : i < n) : za e (.sl b o n c) (.int k i) = some (.ptr b (o + i.toNat * e)) := by
  simp only [za, zfa, z7v, h0, h1, decide_true, Bool.and_self]
section
variable {h : H} {P : List (Option Blk)} {e b : Nat} {new : List V}
end
def U64 (w : Int) : Prop := 0 ≤ w ∧ w < 18446744073709551616
def getT (w : Int) (at' n : Nat) : Int := w / (2 ^ at' : Int) % (2 ^ n : Int)
def okT (w : Int) : Bool := decide (getT w 0 3 ≤ 4) && decide (getT w 9 7 = 0)
theorem zk {α β : Type} {x y : Option α} {f : α → Option β} (h : x = y) : x.bind f = y.bind f := by rw [h]
structure Fr (L : List Nat) (h h' : H) : Prop where
  le : h.next ≤ h'.next
  ok : h'.ok
  same : ∀ b, b < h.next → b ∉ L → h'.get b = h.get b
theorem Fr.refl {L : List Nat} {h : H} (ok : h.ok) : Fr L h h := ⟨Nat.le_refl _, ok, fun _ _ _ => rfl⟩
theorem Fr.new {L : List Nat} {h h' : H} (f : Fr L h h') (x : Blk) : Fr L h (h'.new x) :=
  ⟨by have := f.le; simp only [H.next_new]; omega, f.ok.new x, fun b hb hL => by rw [zb7 (by have := f.le; omega)]; exact f.same b hb hL⟩
theorem Fr.put {L : List Nat} {h h' : H} (f : Fr L h h') {b : Nat} (hb : b ∈ L ∨ h.next ≤ b) (hl : b < h'.next) (x : Option Blk) : Fr L h (h'.put b x) :=
  ⟨f.le, f.ok.put hl x, fun c hc hL => by
    rw [z1e (by rintro rfl; rcases hb with q | q; exact hL q; omega)]; exact f.same c hc hL⟩
theorem Fr.trans {L L' : List Nat} {h h1 h2 : H} (f : Fr L h h1) (g : Fr L' h1 h2) (hL : ∀ b ∈ L', b ∈ L ∨ h.next ≤ b) : Fr L h h2 :=
  ⟨Nat.le_trans f.le g.le, g.ok, fun b hb hn => by
    rw [g.same b (by have := f.le; omega) (fun q => by rcases hL b q with q | q; exact hn q; omega)]; exact f.same b hb hn⟩
theorem Fr.trans' {L : List Nat} {h h1 h2 : H} (f : Fr L h h1) (g : Fr L h1 h2) : Fr L h h2 := f.trans g fun _ q => .inl q
theorem Fr.mono {L L' : List Nat} {h h1 : H} (f : Fr L h h1) (hL : ∀ b ∈ L, b ∈ L' ∨ h.next ≤ b) : Fr L' h h1 :=
  ⟨f.le, f.ok, fun b hb hn => f.same b hb fun q => by rcases hL b q with q | q; exact hn q; omega⟩
theorem Fr.get {L : List Nat} {h h' : H} (f : Fr L h h') (ok : h.ok) {b : Nat} {x : Blk} (hb : h.get b = some x) (hL : b ∉ L) : h'.get b = some x := by
  rw [f.same b (ok.lt hb) hL]; exact hb
theorem Fr.lt {L : List Nat} {h h' : H} (f : Fr L h h') {b : Nat} (hb : b < h.next) : b < h'.next := Nat.lt_of_lt_of_le hb f.le
section
variable {h : H} {n b o : Nat}
theorem zb : h.ld1 (.ptr b o) = ldB (h.get b) o := H.ld1_eq
theorem z14 : h.ldN (n + 1) (.ptr b o) = ldNB (h.get b) o (n + 1) := H.ldN_eq (Nat.succ_ne_zero n)
theorem z2u {x : V} : h.st n (.ptr b o) x = match Nat.beq x.cells.length n with
    | true => (stB (h.get b) o x.cells).map fun y => h.put b (some y)
    | false => none := by
  simp only [H.st]
  split
  · rename_i hb; simp only [hb, H.stc_eq]
  · rename_i hb; simp only [hb]
theorem get_put' {x : Option Blk} {c : Nat} : (h.put b x).get c = if c = b then x else h.get c := H.get_put _ _ _ _
theorem z8e {x : Blk} {c : Nat} : (h.new x).get c = if c = h.next then some x else h.get c := H.get_new _ _ _
theorem z9g {x y : Option Blk} : (h.put b x).put b y = h.put b y := by
  simp only [H.put, T.put, T.put'_put' _ _ _ _ _ _ (Nat.lt_succ_self _) (Nat.lt_succ_self _)]
end
theorem z3a (b o n : Nat) (c : Cap) : lenSl (.sl b o n c) = some n := rfl
theorem zbg : lenSl .nilsl = some 0 := rfl
theorem zj (b o : Nat) : nilc (.ptr b o) = some (.ptr b o) := rfl
theorem z1t (b o : Nat) : zzg (.ptr b o) .nilp = some false := rfl
theorem zbh : zzg .nilp .nilp = some true := rfl
theorem z9n (b o : Nat) : zzg .nilp (.ptr b o) = some false := rfl
theorem zcu (b o n : Nat) (c : Cap) : eqSl (.sl b o n c) .nilsl = some false := rfl
theorem zd8 : eqSl .nilsl .nilsl = some true := rfl
structure Cfg where
  s : Int
  a : Int
  c : Int
  hd : Int
  g : Int
  st : Int
def Cfg.cs (k : Cfg) : List V := [.int .i64 k.s, .int .i64 k.a, .int .i64 k.c, .int .i64 k.hd, .int .i64 k.g, .int .i64 k.st]
def Cfg.v (k : Cfg) : V := cfgV k.s k.a k.c k.hd k.g k.st
def Cfg.R (k : Cfg) : Bool := cfgR k.s k.a k.c k.hd k.g k.st
structure Touch where
  kind : Int
  at' : Int
  was : Int
  now : Int
structure Mem where
  ws : List Int
  n : Int
  last : Touch
theorem zd {α β : Type} (a : α) (f : α → Option β) : (some a).bind f = f a := by
  cases h : f a with
  | none => rw [Option.bind_some, h]
  | some b => rw [Option.bind_some, h]
theorem z8m (b : Bool) : V.one (.bool b) = true := rfl
theorem z9k (b : Bool) : V.cells (.bool b) = [(.bool b)] := rfl
theorem zdc (b : Bool) : boxc (.bool b) = some [(.bool b)] := rfl
theorem zm (k : Go.IntKind) (n : Int) : V.one (.int k n) = true := rfl
theorem z6t (k : Go.IntKind) (n : Int) : V.cells (.int k n) = [(.int k n)] := rfl
theorem zc5 (k : Go.IntKind) (n : Int) : boxc (.int k n) = some [(.int k n)] := rfl
theorem zer (s : ByteArray) : V.one (.str s) = true := rfl
theorem zbr (s : ByteArray) : V.cells (.str s) = [(.str s)] := rfl
theorem zfq (s : ByteArray) : boxc (.str s) = some [(.str s)] := rfl
theorem zfi (b o : Nat) : V.one (.ptr b o) = true := rfl
theorem zb8 (b o : Nat) : V.cells (.ptr b o) = [(.ptr b o)] := rfl
theorem zfm (b o : Nat) : boxc (.ptr b o) = some [(.ptr b o)] := rfl
theorem zde : V.one .nilp = true := rfl
theorem z9v : V.cells .nilp = [.nilp] := rfl
theorem zd4 : boxc .nilp = some [.nilp] := rfl
theorem zhu (b o n : Nat) (c : Cap) : V.one (.sl b o n c) = true := rfl
theorem zd1 (b o n : Nat) (c : Cap) : V.cells (.sl b o n c) = [(.sl b o n c)] := rfl
theorem zgf (b o n : Nat) (c : Cap) : boxc (.sl b o n c) = some [(.sl b o n c)] := rfl
theorem zbt : V.one .nilsl = true := rfl
theorem z88 : V.cells .nilsl = [.nilsl] := rfl
theorem zbe : boxc .nilsl = some [.nilsl] := rfl
theorem zfl (r : Nat) : V.one (.map r) = true := rfl
theorem zbj (r : Nat) : V.cells (.map r) = [(.map r)] := rfl
theorem zf8 (r : Nat) : boxc (.map r) = some [(.map r)] := rfl
theorem z9w : V.one .nilmap = true := rfl
theorem z6s : V.cells .nilmap = [.nilmap] := rfl
theorem z9r : boxc .nilmap = some [.nilmap] := rfl
theorem zhg (f : Nat) (l : List V) : V.one (.fn f l) = true := rfl
theorem zcy (f : Nat) (l : List V) : V.cells (.fn f l) = [(.fn f l)] := rfl
theorem zhk (f : Nat) (l : List V) : boxc (.fn f l) = some [(.fn f l)] := rfl
theorem zbs : V.one .nilfn = true := rfl
theorem z7w : V.cells .nilfn = [.nilfn] := rfl
theorem zbl : boxc .nilfn = some [.nilfn] := rfl
theorem zfc (t : Nat) (v : V) : V.one (.ifc t v) = true := rfl
theorem zbb (t : Nat) (v : V) : V.cells (.ifc t v) = [(.ifc t v)] := rfl
theorem zf3 (t : Nat) (v : V) : boxc (.ifc t v) = some [(.ifc t v)] := rfl
theorem z9p : V.one .nilifc = true := rfl
theorem z6v : V.cells .nilifc = [.nilifc] := rfl
theorem za3 : boxc .nilifc = some [.nilifc] := rfl
theorem z61 (l : List V) : V.cells (.agg l) = l := rfl
theorem zdy (l : List V) : boxc (.agg l) = some l := rfl
theorem z0ah (b o n : Nat) (c : Cap) : V.beq (.sl b o n c) (.sl b o n c) = true := by simp [V.beq]
theorem z01 {α : Type} {l : List α} {j : Nat} {x : α} (h : l[j]? = some x) : j < l.length := by
  rcases Nat.lt_or_ge j l.length with q | q
  · exact q
  · rw [List.getElem?_eq_none q] at h; cases h
theorem z00o {h : H} {e b bb o len n c : Nat} {x : V} {new old : List V} (hx : lenSl x = some n) (hn : h.slc e x = some new) (ho : h.slc e (.sl bb o len (.ex c)) = some old) (h1 : new.all V.one = true) (h2 : (len + n + (len + n) / 2 + 1000) * b ≤ 281474976710656) (he : 0 < e) (hb : 0 < b) (hc : ¬ len + n ≤ c) :
    h.append e b (.sl bb o len (.ex c)) x = some (.sl h.next 0 (len + n) (.op e), h.new (.cells (old ++ new) (.gr e))) := by
  have h3 : lenSl (.sl bb o len (.ex c)) = some len := rfl
  simp only [H.append, hx, hn, h3, ho, h1, h2, he, hb, decide_true, Bool.and_self, hc, decide_false]
inductive Wd
  | clock | epoch | grays | top
  | pin (k : Nat)
  | entry (k i : Nat)
  | view (k : Nat)
  | start (k : Nat)
  | header (s : Nat)
  | link (s : Nat)
  | body (s i : Nat)
  deriving DecidableEq
def Cfg.S (k : Cfg) : Nat := k.s.toNat
def Cfg.room (k : Cfg) : Nat := (if k.a < 3 then 3 else k.a).toNat
def Cfg.C (k : Cfg) : Nat := k.c.toNat
def Cfg.H (k : Cfg) : Nat := k.hd.toNat
def Cfg.base (k : Cfg) : Nat := 4 + k.C + k.C * k.H + k.C * 2
def Cfg.size (k : Cfg) : Nat := k.base + k.S * (2 + k.room)
def Wd.ok (k : Cfg) : Wd → Prop
  | .clock | .epoch | .grays | .top => True
  | .pin q | .view q | .start q => q < k.C
  | .entry q i => q < k.C ∧ i < k.H
  | .header s | .link s => s < k.S
  | .body s i => s < k.S ∧ i < k.room
instance (k : Cfg) (l : Wd) : Decidable (l.ok k) := by cases l <;> (unfold Wd.ok; infer_instance)
theorem Cfg.R_iff {k : Cfg} : k.R = true ↔ (1 ≤ k.s ∧ k.s ≤ 64) ∧ (0 ≤ k.a ∧ k.a ≤ 8) ∧ (1 ≤ k.c ∧ k.c ≤ 8) ∧ (1 ≤ k.hd ∧ k.hd ≤ 16) ∧ (1 ≤ k.g ∧ k.g ≤ 1048576) ∧ (0 ≤ k.st ∧ k.st ≤ 64) := z0b6
theorem Cfg.bounds {k : Cfg} (h : k.R = true) : (1 ≤ k.S ∧ k.S ≤ 64) ∧ (3 ≤ k.room ∧ k.room ≤ 8) ∧ (1 ≤ k.C ∧ k.C ≤ 8) ∧ (1 ≤ k.H ∧ k.H ≤ 16) ∧ k.base ≤ 200 ∧ k.size ≤ 1000 := by
  have := Cfg.R_iff.mp h
  have h1 : 3 ≤ k.room ∧ k.room ≤ 8 := by unfold Cfg.room; split <;> omega
  have h2 : k.C * k.H ≤ 8 * 16 := Nat.mul_le_mul (by unfold Cfg.C; omega) (by unfold Cfg.H; omega)
  have h3 : k.S * (2 + k.room) ≤ 64 * 10 := Nat.mul_le_mul (by unfold Cfg.S; omega) (by omega)
  unfold Cfg.size Cfg.base
  unfold Cfg.S Cfg.C Cfg.H at *
  omega
structure Hdr where
  kind : Int
  mark : Int
  gray : Bool
  arity : Int
  gen : Int
  stamp : Int
def Hdr.cs (x : Hdr) : List V := [.int .i64 x.kind, .int .i64 x.mark, .bool x.gray, .int .i64 x.arity, .int .i64 x.gen, .int .i64 x.stamp]
def Hdr.zero : Hdr := ⟨0, 0, false, 0, 0, 0⟩
def unp (w : Int) : Hdr := if okT w then ⟨getT w 0 3, getT w 3 1, decide (getT w 4 1 = 1), getT w 5 4, getT w 16 32, getT w 48 16⟩ else .zero
def z03t (e : Int) : Int := (e / 4 + 1) % 2
def z0c5 (w : Int) : Bool := okT w && (decide ((unp w).kind = 1) || decide ((unp w).kind = 2))
def z0ex (w e : Int) : Bool := z0c5 w && !decide ((unp w).mark = z03t e)
end Wm
end
noncomputable section
namespace Wm
attribute [local congr] zk
def born (e : Int) : Int := if e % 4 = 0 then 1 - z03t e else z03t e
def z0cc (w e : Int) : Bool := z0c5 w && decide ((unp w).mark = z03t e)
end Wm
end
noncomputable section
namespace Wm
attribute [local congr] zk
attribute [local irreducible] wr
theorem zze {b n i e : Nat} {c : Cap} (hi : i < n) : za e (.sl b 0 n c) (.int .i64 (i : Int)) = some (.ptr b (i * e)) := by
  simp only [za, zfa, z7v, show decide ((0 : Int) ≤ (i : Int)) = true from decide_eq_true (by omega), show decide ((i : Int) < (n : Int)) = true from decide_eq_true (by omega), Bool.and_self, Nat.zero_add, Int.toNat_natCast]
theorem zu {b n i : Nat} {c : Cap} (hi : i < n) : za 1 (.sl b 0 n c) (.int .i64 (i : Int)) = some (.ptr b i) := by rw [zze hi, Nat.mul_one]
theorem zxz {i n : Nat} (h : i < n) : decide ((i : Int) < (n : Int)) = true := decide_eq_true (Int.ofNat_lt.mpr h)
theorem z0di {h : H} {e b bb o c : Nat} {x : V} {new : List V} {n : Nat} (hx : lenSl x = some n) (hn : h.slc e x = some new) (ho : h.slc e (.sl bb o 0 (.ex c)) = some []) (h1 : new.all V.one = true) (h2 : (n + n / 2 + 1000) * b ≤ 281474976710656) (he : 0 < e) (hb : 0 < b) (hc : c < n) :
    h.append e b (.sl bb o 0 (.ex c)) x = some (.sl h.next 0 n (.op e), h.new (.cells new (.gr e))) := by
  have := z00o (len := 0) (bb := bb) (o := o) (c := c) hx hn ho h1 (by simpa using h2) he hb (by omega)
  rw [this]; simp
theorem z0b7 {h : H} {e b o : Nat} {c : Cap} {cs : List V} {k : Bk} (hg : h.get b = some (.cells cs k)) (ho : o ≤ cs.length) : h.slc e (.sl b o 0 c) = some [] := by
  rw [zfp hg (by simpa using ho)]; simp
def V.blk : V → List Nat
  | .sl b _ _ _ => [b]
  | _ => []
def Grown (g : Nat → Option Blk) (x : V) (e : Nat) (l : List V) : Prop :=
  (x = .nilsl ∧ l = []) ∨ ∃ b n, x = .sl b 0 n (.op e) ∧ l.length = n * e ∧ g b = some (.cells l (.gr e))
theorem Grown.nil (g : Nat → Option Blk) (e : Nat) : Grown g .nilsl e [] := .inl ⟨rfl, rfl⟩
theorem Grown.fr {g g' : H} {L : List Nat} {x : V} {e : Nat} {l : List V} (G : Grown g.get x e l) (ok : g.ok) (F : Fr L g g') (h : ∀ b ∈ x.blk, b ∉ L) : Grown g'.get x e l := by
  obtain h1 | ⟨b, n, rfl, hl, hb⟩ := G
  · exact .inl h1
  · exact .inr ⟨b, n, rfl, hl, F.get ok hb (h b (by simp [V.blk]))⟩
theorem Grown.lt {g : H} {x : V} {e : Nat} {l : List V} (G : Grown g.get x e l) (ok : g.ok) : ∀ b ∈ x.blk, b < g.next := by
  obtain ⟨rfl, rfl⟩ | ⟨b, n, rfl, hl, hb⟩ := G
  · simp [V.blk]
  · intro c hc; simp only [V.blk, List.mem_singleton] at hc; subst hc; exact ok.lt hb
theorem Grown.ne {g : Nat → Option Blk} {x : V} {e : Nat} {l : List V} (G : Grown g x e l) {b : Nat} {cs : List V} {k : Bk} (hb : g b = some (.cells cs k)) (hk : k ≠ .gr e) : b ∉ x.blk := by
  obtain ⟨rfl, rfl⟩ | ⟨b', n, rfl, hl, hb'⟩ := G
  · simp [V.blk]
  · simp only [V.blk, List.mem_singleton]
    rintro rfl
    rw [hb] at hb'
    simp only [Option.some.injEq, Blk.cells.injEq] at hb'
    exact hk hb'.2
theorem Grown.at1 {g : H} {x : V} {l : List V} (G : Grown g.get x 1 l) {i : Nat} {v : V} (hv : l[i]? = some v) (h1 : v.one = true) : ∃ b, za 1 x (.int .i64 (i : Int)) = some (.ptr b i) ∧ g.ld1 (.ptr b i) = some v := by
  have hi := z01 hv
  obtain ⟨rfl, rfl⟩ | ⟨b, n, rfl, hl, hb⟩ := G
  · simp at hv
  · refine ⟨b, zu (by omega), ?_⟩
    rw [zb, hb, zf, hv]; simp only [h1]
theorem Grown.push {g : H} (ok : g.ok) {x : V} {e : Nat} {l new : List V} {nb : Nat} {k : Bk} {bytes : Nat} (G : Grown g.get x e l) (hn : g.get nb = some (.cells new k)) (hlen : new.length = e) (h1 : new.all V.one = true) (he : 0 < e) (hb : 0 < bytes ∧ bytes ≤ 1000) (hs : l.length ≤ 1000000) :
    ∃ x' g', g.append e bytes x (.sl nb 0 1 (.ex 1)) = some (x', g') ∧ Fr x.blk g g' ∧ Grown g'.get x' e (l ++ new) ∧ (∀ b ∈ x'.blk, g.next ≤ b) ∧ x'.blk ≠ [] := by
  have hslc : g.slc e (.sl nb 0 1 (.ex 1)) = some new := by
    rw [zfp hn (by omega), List.drop_zero, List.take_of_length_le (by omega)]
  obtain ⟨rfl, rfl⟩ | ⟨b, n, rfl, hl, hbk⟩ := G
  · refine ⟨_, _, append_nil (n := 1) rfl hslc (by omega) h1 (by omega) he hb.1, (Fr.refl ok).new _, .inr ⟨_, _, rfl, by simp; omega, ?_⟩, by simp [V.blk], by simp [V.blk]⟩
    rw [List.nil_append]; exact zp _ _
  · have hnn : n ≤ 1000000 := by
      have : n * 1 ≤ n * e := Nat.mul_le_mul_left _ he
      omega
    have hold : g.slc e (.sl b 0 n (.op e)) = some l := by rw [zfp hbk (by omega), List.drop_zero, List.take_of_length_le (by omega)]
    have hsz : (n + 1 + (n + 1) / 2 + 1000) * bytes ≤ 281474976710656 := by
      have : (n + 1 + (n + 1) / 2 + 1000) * bytes ≤ 2000000 * 1000 := Nat.mul_le_mul (by omega) hb.2
      omega
    refine ⟨_, _, z01u (n := 1) rfl hslc hold hbk h1 hsz he hb.1, ?_, .inr ⟨_, _, rfl, by rw [List.length_append, hl, hlen, Nat.add_mul, Nat.one_mul], zp _ _⟩, by simp [V.blk], by simp [V.blk]⟩
    exact ((Fr.refl ok).put (.inl (by simp [V.blk])) (ok.lt hbk) _).new _
def RowN (kd : Go.IntKind) (g : Nat → Option Blk) (x : V) (ws : List Int) : Prop := (x = .nilsl ∧ ws = []) ∨ ∃ b c k, x = .sl b 0 ws.length c ∧ g b = some (.cells (ws.map (.int kd)) k)
theorem RowN.len {kd : Go.IntKind} {g : Nat → Option Blk} {x : V} {ws : List Int} (h : RowN kd g x ws) : lenSl x = some ws.length := by
  obtain ⟨rfl, rfl⟩ | ⟨b, c, k, rfl, _⟩ := h <;> rfl
theorem RowN.at {kd : Go.IntKind} {g : H} {x : V} {ws : List Int} (h : RowN kd g.get x ws) {i : Nat} {w : Int} (hw : ws[i]? = some w) : ∃ b, za 1 x (.int .i64 (i : Int)) = some (.ptr b i) ∧ g.ld1 (.ptr b i) = some (.int kd w) := by
  have hi := z01 hw
  obtain ⟨rfl, rfl⟩ | ⟨b, c, k, rfl, hb⟩ := h
  · simp at hw
  · refine ⟨b, zu hi, ?_⟩
    rw [zb, hb, zf, List.getElem?_map, hw]; rfl
theorem RowN.fr {kd : Go.IntKind} {g g' : H} {L : List Nat} {x : V} {ws : List Int} (h : RowN kd g.get x ws) (ok : g.ok) (F : Fr L g g') (hL : ∀ b ∈ x.blk, b ∉ L) : RowN kd g'.get x ws := by
  obtain h1 | ⟨b, c, k, rfl, hb⟩ := h
  · exact .inl h1
  · exact .inr ⟨b, c, k, rfl, F.get ok hb (hL b (by simp [V.blk]))⟩
end Wm
end
noncomputable section
namespace Wm
structure HoldR where
  c : Int
  h : Int
  n : Int
structure RSt where
  F : List (List Int)
  Hs : List HoldR
  Wk : List Int
  Cm : List (List Int)
  Gv : List Int
structure CallR where
  kind : Int
  n : Int
  h : Int
  x : Int
  y : Int
structure AnsR where
  err : Int
  h : Int
  yes : Bool
def CallR.cs (c : CallR) : List V := [.int .i64 c.kind, .int .i64 c.n, .int .u64 c.h, .int .u64 c.x, .int .u64 c.y]
def AnsR.cs (a : AnsR) : List V := [.int .i64 a.err, .int .u64 a.h, .bool a.yes]
def HoldR.is (x : HoldR) (k h : Int) : Bool := decide (x.c = k) && decide (x.h = h)
def zxo (l : List HoldR) (k h : Int) : Int := match l.find? (HoldR.is · k h) with
  | some x => x.n
  | none => -1
def z07e (l : List HoldR) (k : Int) : Nat := (l.filter fun x => decide (x.c = k)).length
namespace RSt
def node (r : RSt) (k h : Int) : Int := zxo r.Hs k h
def held (r : RSt) (k : Int) : Nat := z07e r.Hs k
def fl (r : RSt) (n : Int) : List Int := (r.F[n.toNat]?).getD []
def fat (r : RSt) (n i : Int) : Int := ((r.fl n)[i.toNat]?).getD (-1)
def walk (r : RSt) (k : Int) : Int := (r.Wk[k.toNat]?).getD 0
def come (r : RSt) (k : Int) : List Int := (r.Cm[k.toNat]?).getD []
def fresh (r : RSt) (h : Int) : Bool := !(r.Gv.contains h) && !decide (h = 0)
def next (r : RSt) (l : List Int) (x : Int) : List Int := if decide (0 ≤ x) && !l.contains x then l ++ [x] else l
def nexts (r : RSt) (l : List Int) (xs : List Int) : List Int := xs.foldl r.next l
def reach (r : RSt) : Nat → Nat → List Int → List Int
  | 0, _, l => l
  | d + 1, i, l => match l[i]? with
    | none => l
    | some n => r.reach d (i + 1) (r.nexts l (r.fl n))
def reached (r : RSt) (n : Int) : List Int := r.reach (r.F.length + 1) 0 [n]
end RSt
def errR (k : Cfg) (r : RSt) (w : Int) (c : CallR) : Int :=
  if c.kind < 1 ∨ 10 < c.kind then 8
  else if c.kind = 1 then (if c.n < 0 ∨ k.a < c.n then 1 else if (r.held w : Int) < k.hd then 0 else 5)
  else if c.kind = 9 ∨ c.kind = 10 then (if r.walk w = 0 ∨ r.walk w ≠ c.h ∨ (c.kind = 9 ∧ (r.come w).length = 0) then 6 else if c.kind = 9 ∧ ¬ (r.held w : Int) < k.hd then 5 else 0)
  else if r.node w c.h < 0 ∨ ((c.kind = 3 ∨ c.kind = 7) ∧ ¬ 0 ≤ r.node w c.x) ∨ (c.kind = 5 ∧ ((c.x ≠ 0 ∧ ¬ 0 ≤ r.node w c.x) ∨ (c.y ≠ 0 ∧ ¬ 0 ≤ r.node w c.y))) then 2
  else if (2 ≤ c.kind ∧ c.kind ≤ 5) ∧ (c.n < 0 ∨ ((r.fl (r.node w c.h)).length : Int) ≤ c.n) then 3
  else if c.kind = 2 ∧ 0 ≤ r.fat (r.node w c.h) c.n ∧ ¬ (r.held w : Int) < k.hd then 5
  else if c.kind = 8 ∧ r.walk w ≠ 0 then 7
  else 0
def zxn (r : RSt) (w : Int) (c : CallR) : Bool := decide (r.fat (r.node w c.h) c.n = r.node w c.y)
def z73 (r : RSt) (w : Int) (c : CallR) : Bool := decide (c.kind = 1) || decide (c.kind = 8) || decide (c.kind = 9) || (decide (c.kind = 2) && decide (0 ≤ r.fat (r.node w c.h) c.n))
def yesR (r : RSt) (w : Int) (c : CallR) : Bool := (decide (c.kind = 5) && zxn r w c) || (decide (c.kind = 7) && decide (r.node w c.h = r.node w c.x))
def zrg (r : RSt) (w : Int) (c : CallR) : Bool := decide (c.kind = 1) || decide (c.kind = 3) || decide (c.kind = 4) || (decide (c.kind = 5) && zxn r w c)
def okR (k : Cfg) (r : RSt) (w : Int) (c : CallR) (a : AnsR) : Bool :=
  if w < 0 ∨ k.c ≤ w then false
  else if errR k r w c ≠ 0 then decide (a.err = errR k r w c) && decide (a.h = 0) && !a.yes
  else if a.err = 4 then zrg r w c && decide (a.h = 0) && !a.yes
  else decide (a.err = 0) && decide (a.yes = yesR r w c) && (if z73 r w c then r.fresh a.h else decide (a.h = 0))
namespace RSt
def setF (r : RSt) (n i v : Int) : RSt := { r with F := r.F.modify n.toNat fun l => l.set i.toNat v }
def gives (r : RSt) (w h n : Int) : RSt := { r with Gv := r.Gv ++ [h], Hs := r.Hs ++ [⟨w, h, n⟩] }
end RSt
def z4c (r : RSt) (w : Int) (c : CallR) (a : AnsR) : RSt :=
  if c.kind = 1 then ({ r with F := r.F ++ [List.replicate c.n.toNat (-1)] } : RSt).gives w a.h r.F.length
  else if c.kind = 2 then (if z73 r w c then r.gives w a.h (r.fat (r.node w c.h) c.n) else r)
  else if c.kind = 3 then r.setF (r.node w c.h) c.n (r.node w c.x)
  else if c.kind = 4 then r.setF (r.node w c.h) c.n (-1)
  else if c.kind = 5 then (if yesR r w c then r.setF (r.node w c.h) c.n (r.node w c.x) else r)
  else if c.kind = 6 then { r with Hs := r.Hs.filter fun x => !(x.is w c.h) }
  else if c.kind = 8 then { r with Gv := r.Gv ++ [a.h], Wk := r.Wk.set w.toNat a.h, Cm := r.Cm.set w.toNat (r.reached (r.node w c.h)) }
  else if c.kind = 9 then { (r.gives w a.h ((r.come w).headD 0)) with Cm := r.Cm.set w.toNat ((r.come w).tail) }
  else if c.kind = 10 then { r with Wk := r.Wk.set w.toNat 0, Cm := r.Cm.set w.toNat [] }
  else r
def zqj (k : Cfg) (r : RSt) (w : Int) (c : CallR) (a : AnsR) : Bool := okR k r w c a && decide (errR k r w c = 0) && decide (a.err = 0)
def doR (k : Cfg) (r : RSt) (w : Int) (c : CallR) (a : AnsR) : RSt := if zqj k r w c a then z4c r w c a else r
structure RIn (k : Cfg) (r : RSt) : Prop where
  wk : r.Wk.length = k.C
  cm : r.Cm.length = k.C
  f : ∀ l ∈ r.F, ∀ v ∈ l, -1 ≤ v ∧ v < r.F.length
  hs : ∀ x ∈ r.Hs, (0 ≤ x.c ∧ x.c < k.c) ∧ (0 ≤ x.n ∧ x.n < r.F.length) ∧ x.h ∈ r.Gv ∧ x.h ≠ 0 ∧ U64 x.h
  nd : r.Hs.Pairwise fun x y => ¬ (x.c = y.c ∧ x.h = y.h)
  come : ∀ l ∈ r.Cm, ∀ n ∈ l, 0 ≤ n ∧ n < r.F.length
  wu : ∀ h ∈ r.Wk, U64 h
  gu : ∀ h ∈ r.Gv, U64 h
theorem z0a5 {α : Type} {P : List V → Prop} {enc : α → List V} {Q : α → Prop} {z : Nat} (hP : ∀ c, P c → ∃ y, c = enc y ∧ Q y) :
    ∀ (n : Nat) (cs : List V), cs.length = n * z → (∀ i, i < n → P ((cs.drop (i * z)).take z)) → ∃ ys : List α, cs = (ys.map enc).flatten ∧ ys.length = n ∧ ∀ y ∈ ys, Q y
  | 0, cs, hl, _ => ⟨[], by simpa using hl, rfl, by simp⟩
  | n + 1, cs, hl, h => by
    obtain ⟨y, hy, qy⟩ := hP _ (h 0 (by omega))
    have hl2 : (cs.drop z).length = n * z := by rw [List.length_drop, hl, Nat.add_mul]; omega
    obtain ⟨ys, h1, h2, h3⟩ := z0a5 hP n (cs.drop z) hl2 (fun i hi => by
      have := h (i + 1) (by omega)
      rw [Nat.add_mul, Nat.one_mul, Nat.add_comm (i * z) z, ← List.drop_drop] at this
      exact this)
    refine ⟨y :: ys, ?_, by simp [h2], fun x hx => ?_⟩
    · rw [List.map_cons, List.flatten_cons, ← h1, ← hy, Nat.zero_mul, List.drop_zero, List.take_append_drop]
    · rcases List.mem_cons.mp hx with rfl | hx
      · exact qy
      · exact h3 x hx
theorem z0ec {n : Int} (h : (Go.Lit.int .u64 n).wf = true) : U64 n := by
  have : 0 ≤ n ∧ n ≤ 18446744073709551615 := by simpa [Go.Lit.wf, Go.IntKind.min, Go.IntKind.max, Go.IntKind.signed, Go.IntKind.bits] using h
  exact ⟨this.1, by omega⟩
end Wm
end
noncomputable section
namespace Wm
attribute [local congr] zk
attribute [local irreducible] wr
structure Slt where
  head : Hdr
  v : V
  body : List Int
def Slt.cs (s : Slt) : List V := s.head.cs ++ [s.v]
structure RowS (g : Nat → Option Blk) (x : V) (l : List Slt) : Prop where
  row : (x = .nilsl ∧ l = []) ∨ ∃ b c k, x = .sl b 0 l.length c ∧ g b = some (.cells (l.map Slt.cs).flatten k)
  body : ∀ s ∈ l, RowN .u64 g s.v s.body
theorem RowN.one {kd : Go.IntKind} {g : Nat → Option Blk} {x : V} {ws : List Int} (h : RowN kd g x ws) : x.one = true := by
  obtain ⟨rfl, _⟩ | ⟨b, c, k, rfl, _⟩ := h <;> rfl
def Sub (g g' : Nat → Option Blk) : Prop := ∀ b x, g b = some x → g' b = some x
theorem Sub.refl (g : Nat → Option Blk) : Sub g g := fun _ _ h => h
theorem Sub.fr {g : Nat → Option Blk} {h h' : H} {L : List Nat} (s : Sub g h.get) (ok : h.ok) (F : Fr L h h') (hL : ∀ b ∈ L, g b = none) : Sub g h'.get := fun b x hb =>
  F.get ok (s b x hb) fun q => by rw [hL b q] at hb; cases hb
theorem Sub.fr0 {g : Nat → Option Blk} {h h' : H} (s : Sub g h.get) (ok : h.ok) (F : Fr [] h h') : Sub g h'.get := s.fr ok F (by simp)
def RowO (kd : Go.IntKind) (g : Nat → Option Blk) (x : V) (ws : List Int) : Prop :=
  (x = .nilsl ∧ ws = []) ∨ ∃ b o c k cs, x = .sl b o ws.length c ∧ g b = some (.cells cs k) ∧ (cs.drop o).take ws.length = ws.map (.int kd) ∧ o + ws.length ≤ cs.length ∧ (c = .op 1 ∨ ∃ n, c = .ex n ∧ ws.length ≤ n)
theorem RowO.len {kd : Go.IntKind} {g : Nat → Option Blk} {x : V} {ws : List Int} (h : RowO kd g x ws) : lenSl x = some ws.length := by
  obtain ⟨rfl, rfl⟩ | ⟨b, o, c, k, cs, rfl, _⟩ := h <;> rfl
theorem RowO.one {kd : Go.IntKind} {g : Nat → Option Blk} {x : V} {ws : List Int} (h : RowO kd g x ws) : x.one = true := by
  obtain ⟨rfl, rfl⟩ | ⟨b, o, c, k, cs, rfl, _⟩ := h <;> rfl
theorem RowO.sub {kd : Go.IntKind} {g g' : Nat → Option Blk} {x : V} {ws : List Int} (h : RowO kd g x ws) (s : Sub g g') : RowO kd g' x ws := by
  obtain h1 | ⟨b, o, c, k, cs, e, hb, r⟩ := h
  · exact .inl h1
  · exact .inr ⟨b, o, c, k, cs, e, s _ _ hb, r⟩
theorem RowO.at {kd : Go.IntKind} {g : Nat → Option Blk} {x : V} {ws : List Int} (h : RowO kd g x ws) {i : Nat} {w : Int} (hw : ws[i]? = some w) : ∃ b o, za 1 x (.int .i64 (i : Int)) = some (.ptr b o) ∧ ldB (g b) o = some (.int kd w) := by
  have hi := z01 hw
  obtain ⟨rfl, rfl⟩ | ⟨b, o, c, k, cs, rfl, hb, hd, hl, _⟩ := h
  · simp at hw
  · refine ⟨b, o + i, ?_, ?_⟩
    · rw [z08g (by omega) (by omega)]; simp
    · have : cs[o + i]? = some (.int kd w) := by
        have e1 := congrArg (fun l : List V => l[i]?) hd
        simp only [List.getElem?_take, hi, if_true, List.getElem?_drop, List.getElem?_map, hw, Option.map_some] at e1
        exact e1
      rw [hb, zf, this]; rfl
theorem z058 (kd : Go.IntKind) (ws : List Int) : (ws.map (V.int kd)).all V.one = true := by
  rw [List.all_map, List.all_eq_true]; intro _ _; rfl
theorem RowO.tail {kd : Go.IntKind} {g : Nat → Option Blk} {x : V} {w : Int} {ws : List Int} (h : RowO kd g x (w :: ws)) : ∃ x', z67 1 x (some (.int .i64 1)) none none = some x' ∧ RowO kd g x' ws := by
  obtain ⟨_, h0⟩ | ⟨b, o, c, k, cs, rfl, hb, hd, hl, hc⟩ := h
  · cases h0
  · rw [List.length_cons] at *
    have h1 : (cs.drop (o + 1)).take ws.length = ws.map (.int kd) := by
      have e1 := congrArg (List.drop 1) hd
      rw [List.drop_take, List.drop_drop] at e1
      simpa [Nat.add_comm] using e1
    have hb1 : ∀ m : Nat, 1 ≤ m → z1m 0 m (some (.int .i64 1)) = some 1 := fun m hm => by
      have d1 : decide ((1 : Int) ≤ ((m : Nat) : Int)) = true := decide_eq_true (by omega)
      show (match decide ((0 : Int) ≤ 1) && decide ((1 : Int) ≤ ((m : Nat) : Int)) with | true => _ | false => _) = _
      rw [d1]; rfl
    rcases hc with rfl | ⟨n, rfl, hn⟩
    · refine ⟨.sl b (o + 1) ws.length (.op 1), ?_, .inr ⟨b, o + 1, _, k, cs, rfl, hb, h1, by omega, .inl rfl⟩⟩
      have hz : Nat.beq 1 1 = true := rfl
      have hb0 : z1m (ws.length + 1) (ws.length + 1) none = some (ws.length + 1) := rfl
      simp only [z67, hb0, hb1 _ (Nat.le_add_left 1 _), Nat.mul_one, Nat.add_sub_cancel]
    · have e0 : z1m n n none = some n := rfl
      have e2 : z1m (ws.length + 1) n none = some (ws.length + 1) := rfl
      by_cases h2 : n = 1
      · subst h2
        have hw : ws = [] := List.eq_nil_of_length_eq_zero (by omega)
        subst hw
        refine ⟨.sl b o 0 (.ex 0), ?_, .inr ⟨b, o, _, k, cs, rfl, hb, by simp, by simp at hl ⊢; omega, .inr ⟨0, rfl, by simp⟩⟩⟩
        rfl
      · refine ⟨.sl b (o + 1) ws.length (.ex (n - 1)), ?_, .inr ⟨b, o + 1, _, k, cs, rfl, hb, h1, by omega, .inr ⟨n - 1, rfl, by omega⟩⟩⟩
        have hz : Nat.beq n 1 = false := by
          cases hq : Nat.beq n 1 with
          | false => rfl
          | true => exact absurd (Nat.eq_of_beq_eq_true hq) h2
        simp only [z67, e0, e2, hb1 _ (Nat.le_add_left 1 _), hz, Nat.mul_one, Nat.add_sub_cancel]
def RowsO (kd : Go.IntKind) (g : Nat → Option Blk) (x : V) (L : List (List Int)) : Prop :=
  (x = .nilsl ∧ L = []) ∨ ∃ (b : Nat) (c : Cap) (k : Bk) (vs : List V), x = .sl b 0 L.length c ∧ g b = some (.cells vs k) ∧ vs.length = L.length ∧ ∀ (i : Nat) (v : V) (l : List Int), vs[i]? = some v → L[i]? = some l → RowO kd g v l
theorem RowsO.len {kd : Go.IntKind} {g : Nat → Option Blk} {x : V} {L : List (List Int)} (h : RowsO kd g x L) : lenSl x = some L.length := by
  obtain ⟨rfl, rfl⟩ | ⟨b, c, k, vs, rfl, _⟩ := h <;> rfl
theorem RowsO.at {kd : Go.IntKind} {g : Nat → Option Blk} {x : V} {L : List (List Int)} (h : RowsO kd g x L) {i : Nat} {l : List Int} (hl : L[i]? = some l) : ∃ b y, za 1 x (.int .i64 (i : Int)) = some (.ptr b i) ∧ ldB (g b) i = some y ∧ RowO kd g y l := by
  have hi := z01 hl
  obtain ⟨rfl, rfl⟩ | ⟨b, c, k, vs, rfl, hb, hn, hr⟩ := h
  · simp at hl
  · obtain ⟨v, hv⟩ : ∃ v, vs[i]? = some v := ⟨_, List.getElem?_eq_getElem (by omega)⟩
    refine ⟨b, v, zu hi, ?_, hr i v l hv hl⟩
    rw [hb, zf, hv]; simp only [(hr i v l hv hl).one]
structure StV where
  f : V
  h : V
  w : V
  c : V
  g : V
theorem z03r {i : Nat} (h : i ≤ 100000) : wr .i64 ((i : Int) + 1) = ((i + 1 : Nat) : Int) := by rw [wr64 (by omega) (by omega)]; rfl
theorem z083 (x : HoldR) (l : List HoldR) (w q : Int) : zxo (x :: l) w q = if x.is w q then x.n else zxo l w q := by
  unfold zxo
  rw [List.find?_cons]
  cases x.is w q <;> rfl
def z00a (k : Cfg) (r : RSt) (w : Int) (c : CallR) : Int :=
  if c.kind = 2 ∧ 0 ≤ r.fat (r.node w c.h) c.n ∧ ¬ (r.held w : Int) < k.hd then 5
  else if c.kind = 8 ∧ r.walk w ≠ 0 then 7
  else 0
def zpe (k : Cfg) (r : RSt) (w : Int) (c : CallR) : Int :=
  if (2 ≤ c.kind ∧ c.kind ≤ 5) ∧ (c.n < 0 ∨ ((r.fl (r.node w c.h)).length : Int) ≤ c.n) then 3 else z00a k r w c
def err9 (k : Cfg) (r : RSt) (w : Int) (c : CallR) : Int :=
  if r.node w c.h < 0 ∨ ((c.kind = 3 ∨ c.kind = 7) ∧ ¬ 0 ≤ r.node w c.x) ∨ (c.kind = 5 ∧ ((c.x ≠ 0 ∧ ¬ 0 ≤ r.node w c.x) ∨ (c.y ≠ 0 ∧ ¬ 0 ≤ r.node w c.y))) then 2 else zpe k r w c
def err6 (k : Cfg) (r : RSt) (w : Int) (c : CallR) : Int :=
  if r.walk w = 0 ∨ r.walk w ≠ c.h ∨ (c.kind = 9 ∧ (r.come w).length = 0) then 6 else if c.kind = 9 ∧ ¬ (r.held w : Int) < k.hd then 5 else 0
theorem ztk (k : Cfg) (r : RSt) (w : Int) (c : CallR) : errR k r w c = (if c.kind < 1 ∨ 10 < c.kind then 8
  else if c.kind = 1 then (if c.n < 0 ∨ k.a < c.n then 1 else if (r.held w : Int) < k.hd then 0 else 5)
  else if c.kind = 9 ∨ c.kind = 10 then err6 k r w c else err9 k r w c) := rfl
section
variable {k : Cfg} {s : StV} {r : RSt} {c : CallR} {g : H} {p q : Nat}
end
theorem z01v : ∀ (l : List HoldR) (w q : Int), zxo l w q = -1 ∨ ∃ x ∈ l, x.c = w ∧ x.h = q ∧ x.n = zxo l w q
  | [], _, _ => .inl rfl
  | x :: l, w, q => by
    rw [z083]
    by_cases h : x.is w q = true
    · rw [if_pos h]
      unfold HoldR.is at h
      simp only [Bool.and_eq_true, decide_eq_true_eq] at h
      exact .inr ⟨x, List.mem_cons_self, h.1, h.2, rfl⟩
    · rw [if_neg h]
      rcases z01v l w q with e | ⟨y, hy, r⟩
      · exact .inl e
      · exact .inr ⟨y, List.mem_cons_of_mem _ hy, r⟩
theorem RIn.node {k : Cfg} {r : RSt} (I : RIn k r) (w q : Int) : r.node w q = -1 ∨ (0 ≤ r.node w q ∧ r.node w q < r.F.length) := by
  rcases z01v r.Hs w q with e | ⟨x, hx, _, _, e⟩
  · exact .inl e
  · have := (I.hs x hx).2.1
    unfold RSt.node
    rw [← e]
    exact .inr this
theorem RIn.flAt {k : Cfg} {r : RSt} (I : RIn k r) {w q : Int} (h : 0 ≤ r.node w q) : ∃ n : Nat, r.node w q = (n : Int) ∧ r.F[n]? = some (r.fl (r.node w q)) := by
  rcases I.node w q with e | ⟨h0, h1⟩
  · omega
  · refine ⟨(r.node w q).toNat, by omega, ?_⟩
    unfold RSt.fl
    rw [List.getElem?_eq_getElem (by omega)]; rfl
theorem RSt.fatAt {r : RSt} {n i : Int} (h0 : 0 ≤ i) (h1 : i < ((r.fl n).length : Int)) : ∃ j : Nat, i = (j : Int) ∧ (r.fl n)[j]? = some (r.fat n i) := by
  refine ⟨i.toNat, by omega, ?_⟩
  unfold RSt.fat
  rw [List.getElem?_eq_getElem (by omega)]; rfl
def bad9 (nh nx ny : Int) (c : CallR) : Bool := decide (nh < 0) || (decide (c.kind = 3) && !decide (0 ≤ nx)) || (decide (c.kind = 7) && !decide (0 ≤ nx)) || (decide (c.kind = 5) && ((!decide (c.x = 0) && !decide (0 ≤ nx)) || (!decide (c.y = 0) && !decide (0 ≤ ny))))
theorem z0df (k : Cfg) (r : RSt) (w : Int) (c : CallR) : err9 k r w c = if bad9 (r.node w c.h) (r.node w c.x) (r.node w c.y) c then 2 else zpe k r w c := by
  unfold err9 bad9
  congr 1
  simp only [Bool.or_eq_true, Bool.and_eq_true, decide_eq_true_eq, Bool.not_eq_true', decide_eq_false_iff_not, eq_iff_iff, ne_eq]
  constructor
  · rintro (h | ⟨h | h, i⟩ | h)
    · exact .inl (.inl (.inl h))
    · exact .inl (.inl (.inr ⟨h, i⟩))
    · exact .inl (.inr ⟨h, i⟩)
    · exact .inr h
  · rintro (((h | ⟨h, i⟩) | ⟨h, i⟩) | h)
    · exact .inl h
    · exact .inr (.inl ⟨.inl h, i⟩)
    · exact .inr (.inl ⟨.inr h, i⟩)
    · exact .inr (.inr h)
theorem z0bz (p : Nat → Bool) (n : Nat) : ((List.range (n + 1)).filter p).length = ((List.range n).filter p).length + if p n then 1 else 0 := by
  rw [List.range_succ, List.filter_append, List.length_append]
  by_cases h : p n
  · simp [h]
  · simp [h]
structure BookT where
  now : Int
  born : Int → Option Int
  turned : Int → Option Int
end Wm
end
noncomputable section
namespace Wm
def Made (o : Option (V × H)) (h : H) (b : Bool) : Prop := ∃ l v, o = some (v, h.ext l) ∧ match b with
  | true => ∃ p q, v = .ptr p q
  | false => v = .nilp
end Wm
end
noncomputable section
namespace Wm
attribute [local congr] zk
attribute [local irreducible] wr
structure Adr where
  p : Nat
  pw : Nat
  bk : Nat
  m1 : Nat
  m2 : Nat
section
variable {h : H} {A : Adr} {k : Cfg} {f : Wd → Int} {n : Int} {B : BookT}
end
def sl (o : Option Nat) : Int := match o with
  | none => -1
  | some q => q
def Go {X : Type} (st : X → X) (fin : X → Prop) : Nat → X → (X → Prop) → Prop
  | 0, _, _ => False
  | m + 1, x, Q => (fin (st x) ∧ Q (st x)) ∨ (¬ fin (st x) ∧ Go st fin m (st x) Q)
section
variable {X : Type} {st : X → X} {fin : X → Prop}
end
structure Psh where
  at' : Int
  top : Int
structure Fre where
  back : Bool
  gone : Bool
  now : Int
  push : Option Psh
  next : Int
structure Rcl where
  back : Nat
  gone : Nat
  slot : Nat
  free : Option Fre
abbrev z0c1 := Rcl × (Wd → Int) × Int
def z0e6 (k : Cfg) (x : z0c1) : Prop := x.1.slot = k.S
instance (k : Cfg) (x : z0c1) : Decidable (z0e6 k x) := inferInstanceAs (Decidable (x.1.slot = k.S))
end Wm
end
noncomputable section
namespace Wm
def nmO (k : Cfg) (w : Int) : Option Nat := if 1 ≤ w ∧ w ≤ k.S then some (w - 1).toNat else none
def z0ee (k : Cfg) (f : Wd → Int) (q i : Nat) : Option Nat := nmO k (f (.body q i))
def z0da (k : Cfg) (f : Wd → Int) (q : Nat) : List Nat :=
  if (unp (f (.header q))).kind = 1 then List.range (min (unp (f (.header q))).arity.toNat k.room) else if (unp (f (.header q))).kind = 2 then [0, 2] else []
def z091 (k : Cfg) (f : Wd → Int) (q : Nat) : List Nat := (z0da k f q).filterMap (z0ee k f q)
def z0er (k : Cfg) (f : Wd → Int) (c i : Nat) : Option Nat := nmO k (f (.entry c i) % 4294967296)
def z0ek (k : Cfg) (f : Wd → Int) (c : Nat) : Option Nat := nmO k (f (.start c))
def z0d4 (k : Cfg) (f : Wd → Int) (c : Nat) : List Nat := (List.range k.H).filterMap (z0er k f c) ++ (z0ek k f c).toList
def z0aj (k : Cfg) (f : Wd → Int) (n : Nat) : List Nat := (List.range n).flatMap (z0d4 k f)
section
variable (k : Cfg) (f : Wd → Int) (e : Int)
def mkd (q : Nat) : Bool := z0cc (f (.header q)) e
def wht (q : Nat) : Bool := z0ex (f (.header q)) e
def gry (q : Nat) : Bool := (unp (f (.header q))).gray
def thr (X : Nat → Bool) (p : Nat) : Bool := gry f p || (X p && !mkd f e p)
structure FClosed (X : Nat → Bool) : Prop where
  m : ∀ q, q < k.S → mkd f e q = true → X q = true
  r : ∀ q ∈ z0aj k f k.C, wht f e q = true → X q = true
  n : ∀ p, p < k.S → thr f e X p = true → ∀ q ∈ z091 k f p, wht f e q = true → X q = true
end
def bupd (X : Nat → Bool) (s : Nat) : Nat → Bool := fun q => if q = s then true else X q
theorem zwu (X : Nat → Bool) (s : Nat) : bupd X s s = true := if_pos rfl
theorem z00w {X : Nat → Bool} {s q : Nat} (h : q ≠ s) : bupd X s q = X q := if_neg h
def nfN (X : Nat → Bool) (n : Nat) : Nat := ((List.range n).filter fun q => !X q).length
theorem zyy (X : Nat → Bool) (n : Nat) : nfN X (n + 1) = nfN X n + if X n then 0 else 1 := by
  unfold nfN
  rw [z0bz]
  cases X n <;> rfl
theorem zz4 {X : Nat → Bool} {s : Nat} (hs : X s = false) : ∀ n, nfN (bupd X s) n + (if s < n then 1 else 0) = nfN X n
  | 0 => rfl
  | n + 1 => by
    have ih := zz4 hs n
    rw [zyy, zyy]
    by_cases h : n = s
    · subst h
      rw [zwu, hs]
      simp at ih ⊢
      omega
    · rw [z00w h]
      by_cases h2 : s < n
      · rw [if_pos h2] at ih
        rw [if_pos (show s < n + 1 by omega)]
        omega
      · rw [if_neg h2] at ih
        rw [if_neg (show ¬ s < n + 1 by omega)]
        omega
structure Fnd where
  X : Nat → Bool
  todo : List Nat
structure Inv (k : Cfg) (f : Wd → Int) (e : Int) (s : Fnd) (P : List Nat) : Prop where
  a : ∀ q, q < k.S → mkd f e q = true → s.X q = true
  b : ∀ Y, FClosed k f e Y → ∀ q, q < k.S → s.X q = true → Y q = true
  c : ∀ t ∈ s.todo, t < k.S ∧ thr f e s.X t = true
  d : ∀ q ∈ z0aj k f k.C, wht f e q = true → s.X q = true ∨ q ∈ P
  n : ∀ p, p < k.S → thr f e s.X p = true → p ∈ s.todo ∨ ∀ q ∈ z091 k f p, wht f e q = true → s.X q = true ∨ q ∈ P
  p : ∀ q ∈ P, q < k.S ∧ ∀ Y, FClosed k f e Y → wht f e q = true → Y q = true
  m : s.todo.length + nfN s.X k.S ≤ 2 * k.S
end Wm
end
noncomputable section
namespace Wm
attribute [local congr] zk
attribute [local irreducible] wr
structure Evt where
  client : Int
  op : Int
  begun : Int
  point : Int
  ended : Int
  behind : Bool
  kind : Int
  n : Int
  h : Int
  x : Int
  y : Int
  err : Int
  ah : Int
  yes : Bool
def Evt.cs (e : Evt) : List V := [.int .i64 e.client, .int .i64 e.op, .int .i64 e.begun, .int .i64 e.point, .int .i64 e.ended, .bool e.behind, .int .i64 e.kind, .int .i64 e.n, .int .u64 e.h, .int .u64 e.x, .int .u64 e.y, .int .i64 e.err, .int .u64 e.ah, .bool e.yes]
def z0c3 : List CSh := [.int .i64, .int .i64, .int .i64, .int .i64, .int .i64, .bool, .int .i64, .int .i64, .int .u64, .int .u64, .int .u64, .int .i64, .int .u64, .bool]
def RowE (g : Nat → Option Blk) (x : V) (l : List Evt) : Prop := (x = .nilsl ∧ l = []) ∨ ∃ b c k, x = .sl b 0 l.length c ∧ g b = some (.cells (l.map Evt.cs).flatten k)
theorem z03q (l : List Evt) : ∀ x ∈ l.map Evt.cs, x.length = 14 := fun x hx => by
  obtain ⟨_, _, rfl⟩ := List.mem_map.mp hx; rfl
theorem RowE.len {g : Nat → Option Blk} {x : V} {l : List Evt} (h : RowE g x l) : lenSl x = some l.length := by
  obtain ⟨rfl, rfl⟩ | ⟨b, c, k, rfl, _⟩ := h <;> rfl
theorem RowE.fr {g g' : H} {L : List Nat} {x : V} {l : List Evt} (h : RowE g.get x l) (ok : g.ok) (F : Fr L g g') (hL : ∀ b ∈ x.blk, b ∉ L) : RowE g'.get x l := by
  obtain h1 | ⟨b, c, k, rfl, hb⟩ := h
  · exact .inl h1
  · exact .inr ⟨b, c, k, rfl, F.get ok hb (hL b (by simp [V.blk]))⟩
theorem RowE.lt {g : H} {x : V} {l : List Evt} (h : RowE g.get x l) (ok : g.ok) : ∀ b ∈ x.blk, b < g.next := by
  obtain ⟨rfl, rfl⟩ | ⟨b, c, k, rfl, hb⟩ := h
  · simp [V.blk]
  · intro c' hc; simp only [V.blk, List.mem_singleton] at hc; subst hc; exact ok.lt hb
theorem RowE.at {g : H} {x : V} {l : List Evt} (h : RowE g.get x l) {i : Nat} {y : Evt} (hy : l[i]? = some y) :
    ∃ b, za 14 x (.int .i64 (i : Int)) = some (.ptr b (i * 14)) ∧ ldNB (g.get b) (i * 14) 14 = some (.agg y.cs) ∧ ldB (g.get b) (i * 14 + 2) = some (.int .i64 y.begun) ∧ ldB (g.get b) (i * 14 + 4) = some (.int .i64 y.ended) ∧ ldB (g.get b) (i * 14 + 1) = some (.int .i64 y.op) ∧ b ∈ x.blk := by
  have hi := z01 hy
  obtain ⟨rfl, rfl⟩ | ⟨b, c, k, rfl, hb⟩ := h
  · simp at hy
  · have hn : (l.map Evt.cs).flatten.length = l.length * 14 := by rw [zpg (z03q l), List.length_map]
    have hp := zru (z03q l) i y.cs (by rw [List.getElem?_map, hy]; rfl)
    have at' : ∀ j, j < 14 → (l.map Evt.cs).flatten[i * 14 + j]? = y.cs[j]? := fun j hj => by
      rw [← hp, List.getElem?_take, if_pos hj, List.getElem?_drop]
    refine ⟨b, zze hi, ?_, ?_, ?_, ?_, by simp [V.blk]⟩
    · rw [hb, z0s, decide_eq_true (by rw [hn]; omega), hp]
    · rw [hb, zf, at' 2 (by decide)]; rfl
    · rw [hb, zf, at' 4 (by decide)]; rfl
    · rw [hb, zf, at' 1 (by decide)]; rfl
theorem zzd (a b : Evt) (h : H) : C 183 [.agg a.cs, .agg b.cs] h = some (.bool (decide (a.ended < b.begun)), h) := by
  refine zb6 (af := F.zeh) (by kernel_rfl) rfl (by rfl) (by rfl) h ?_
  unfold Evt.cs
  rw [S.z03d]
  have h0 : H.empty.next = 0 := rfl
  simp only [S.zeh, Option.bind_some, zb, z8e, zf, H.next_new, List.getElem?_cons_zero, List.getElem?_cons_succ, Nat.zero_add, V.one, ze, if_true, if_false, reduceCtorEq, h0]
  exact Ev.some rfl
theorem z039 (a b : Evt) (h : H) : C 184 [.agg a.cs, .agg b.cs] h = some (.bool (decide (a.ended < b.begun)), h) := by
  refine zb6 (af := F.z6y) (by kernel_rfl) rfl (by rfl) (by rfl) h ?_
  unfold Evt.cs
  rw [S.zvm]
  have h0 : H.empty.next = 0 := rfl
  simp only [S.z6y, Option.bind_some, zb, z8e, zf, H.next_new, List.getElem?_cons_zero, List.getElem?_cons_succ, Nat.zero_add, V.one, ze, if_true, if_false, reduceCtorEq, h0]
  exact Ev.some rfl
def zcg (l : List Bool) : List V := l.map .bool
theorem z02p (l : List Bool) : (zcg l).length = l.length := List.length_map _
theorem z0bv {l : List Bool} {i : Nat} {v : Bool} (h : l[i]? = some v) : (zcg l)[i]? = some (.bool v) := by unfold zcg; rw [List.getElem?_map, h]; rfl
theorem z09x (l : List Bool) (i : Nat) (v : Bool) : (zcg l).set i (.bool v) = zcg (l.set i v) := by unfold zcg; rw [List.map_set]
theorem z09h (n : Nat) : repl [V.bool false] n = zcg (List.replicate n false) := by
  unfold zcg
  induction n with
  | zero => rfl
  | succ n ih => simp only [repl, ih, List.replicate_succ, List.map_cons, List.cons_append, List.nil_append]
theorem z0de {h : H} {n : Nat} (hn : n ≤ 1000000) : h.mkSl 1 1 [(.bool false)] (n : Int) (n : Int) = some (.sl h.next 0 n (.ex n), h.new (.cells (zcg (List.replicate n false)) .rw)) := by
  have h0 : (0 : Int) ≤ (n : Int) := Int.natCast_nonneg n
  have h1 : (n : Int) * ((1 : Nat) : Int) ≤ 140737488355328 := by omega
  have h2 : (n : Int) ≤ 9223372036854775807 := by omega
  rw [ztf (e := 1) (z := [.bool false]) h0 (Int.le_refl _) h1 h2 rfl (by decide), Int.toNat_natCast, z09h]
def bF (X : Nat → Bool) (n : Nat) : List Bool := (List.range n).map X
end Wm
end
noncomputable section
namespace Wm
attribute [local irreducible] wr
structure Seen (n : Nat) (l : List Int) (X : Nat → Bool) : Prop where
  x : ∀ q, q < n → X q = l.contains (q : Int)
  len : l.length + nfN X n = n
  all : ∀ v ∈ l, 0 ≤ v ∧ v < n
theorem z0ak (n : Nat) : nfN (fun _ => false) n = n := by
  induction n with
  | zero => rfl
  | succ n ih => rw [zyy, ih]; rfl
theorem Seen.one {n q : Nat} (h : q < n) : Seen n [(q : Int)] (bupd (fun _ => false) q) := by
  refine ⟨fun i hi => ?_, ?_, ?_⟩
  · rw [List.contains_cons]
    by_cases e : i = q
    · subst e; rw [zwu]; simp
    · rw [z00w e]
      have : ((i : Int) == (q : Int)) = false := by simp; omega
      rw [this]; rfl
  · have h1 := zz4 (X := fun _ => false) (s := q) rfl n
    rw [if_pos h, z0ak] at h1
    simp only [List.length_singleton]; omega
  · intro v hv
    simp only [List.mem_singleton] at hv
    subst hv; omega
theorem Seen.len_le {n : Nat} {l : List Int} {X : Nat → Bool} (S : Seen n l X) : l.length ≤ n := by have := S.len; omega
theorem Seen.push {n : Nat} {l : List Int} {X : Nat → Bool} (S : Seen n l X) {q : Nat} (hq : q < n) (hX : X q = false) : Seen n (l ++ [(q : Int)]) (bupd X q) := by
  refine ⟨fun i hi => ?_, ?_, ?_⟩
  · by_cases e : i = q
    · subst e; rw [zwu]; simp
    · rw [z00w e, S.x i hi]
      have : ((i : Int) == (q : Int)) = false := by simp; omega
      simp only [List.contains_eq_mem, List.mem_append, List.mem_singleton]
      have h2 : ¬ ((i : Int) = (q : Int)) := by omega
      simp [h2]
  · have h1 := zz4 hX n
    rw [if_pos hq] at h1
    have := S.len
    rw [List.length_append, List.length_singleton]; omega
  · intro v hv
    rcases List.mem_append.mp hv with h | h
    · exact S.all v h
    · simp only [List.mem_singleton] at h
      subst h; omega
theorem Seen.skip {r : RSt} {n : Nat} {l : List Int} {X : Nat → Bool} (S : Seen n l X) {v : Int} (h1 : v < n) (h : v < 0 ∨ X v.toNat = true) : r.next l v = l := by
  unfold RSt.next
  rcases h with h | h
  · rw [decide_eq_false (by omega)]; rfl
  · by_cases h0 : 0 ≤ v
    · rw [S.x _ (by omega), show ((v.toNat : Nat) : Int) = v from by omega] at h
      rw [h]; simp
    · rw [decide_eq_false h0]; rfl
theorem Seen.take {r : RSt} {n : Nat} {l : List Int} {X : Nat → Bool} (S : Seen n l X) {v : Int} (h0 : 0 ≤ v) (h1 : v < n) (h : X v.toNat = false) : r.next l v = l ++ [v] := by
  unfold RSt.next
  rw [S.x _ (by omega), show ((v.toNat : Nat) : Int) = v from by omega] at h
  rw [h, decide_eq_true h0]; rfl
theorem zue (r : RSt) (l : List Int) (x : Int) (xs : List Int) : r.nexts l (x :: xs) = r.nexts (r.next l x) xs := rfl
theorem z0ac (r : RSt) (d i : Nat) (l : List Int) (h : l.length ≤ i) : r.reach d i l = l := by
  cases d with
  | zero => rfl
  | succ d => unfold RSt.reach; rw [List.getElem?_eq_none h]
theorem z084 (r : RSt) (d i : Nat) (l : List Int) {n : Int} (h : l[i]? = some n) : r.reach (d + 1) i l = r.reach d (i + 1) (r.nexts l (r.fl n)) := by
  rw [RSt.reach, h]
def LQ (g : Nat → Option Blk) (x : V) (l : List Int) : Prop := ∃ b c k, x = .sl b 0 l.length c ∧ g b = some (.cells (l.map (.int .i64)) k) ∧ (c = .ex l.length ∨ (c = .op 1 ∧ k = .gr 1))
theorem LQ.row {g : Nat → Option Blk} {x : V} {l : List Int} (L : LQ g x l) : RowO .i64 g x l := by
  obtain ⟨b, c, k, rfl, hb, hc⟩ := L
  refine .inr ⟨b, 0, c, k, _, rfl, hb, ?_, by rw [List.length_map]; omega, ?_⟩
  · rw [List.drop_zero, List.take_of_length_le (by rw [List.length_map]; omega)]
  · rcases hc with rfl | ⟨rfl, _⟩
    · exact .inr ⟨_, rfl, Nat.le_refl _⟩
    · exact .inl rfl
theorem LQ.fr {g g' : H} {L : List Nat} {x : V} {l : List Int} (Q : LQ g.get x l) (ok : g.ok) (F : Fr L g g') (h : ∀ b ∈ x.blk, b ∉ L) : LQ g'.get x l := by
  obtain ⟨b, c, k, rfl, hb, hc⟩ := Q
  exact ⟨b, c, k, rfl, F.get ok hb (h b (by simp [V.blk])), hc⟩
theorem LQ.push {g : H} (ok : g.ok) {x : V} {l : List Int} (Q : LQ g.get x l) (hl : l.length ≤ 100000) (v : Int) :
    ∃ x' g', (g.new (.cells [.int .i64 v] .rw)).append 1 8 x (.sl g.next 0 1 (.ex 1)) = some (x', g') ∧ Fr x.blk g g' ∧ LQ g'.get x' (l ++ [v]) ∧ (∀ b ∈ x'.blk, g.next ≤ b) := by
  have F1 : Fr [] g (g.new (.cells [.int .i64 v] .rw)) := (Fr.refl ok).new _
  have hnew : (g.new (.cells [.int .i64 v] .rw)).slc 1 (.sl g.next 0 1 (.ex 1)) = some [.int .i64 v] := by
    rw [zfp (zp _ _) (by simp), List.drop_zero, List.take_of_length_le (by simp)]
  have Q1 := Q.fr ok F1 (by simp)
  obtain ⟨b, c, k, rfl, hb, hc⟩ := Q1
  have hlen : (l.map (V.int .i64)).length = l.length := List.length_map _
  have hold : ∀ c, (g.new (.cells [.int .i64 v] .rw)).slc 1 (.sl b 0 l.length c) = some (l.map (.int .i64)) := fun c => by
    rw [zfp hb (by omega), List.drop_zero, List.take_of_length_le (by omega)]
  have hfin : ∀ (g' : H), (∃ n, n = g'.next) → LQ (g'.new (.cells (l.map (V.int .i64) ++ [.int .i64 v]) (.gr 1))).get (.sl g'.next 0 (l.length + 1) (.op 1)) (l ++ [v]) := fun g' _ =>
    ⟨g'.next, .op 1, .gr 1, by rw [List.length_append]; rfl, by rw [zp, List.map_append]; rfl, .inr ⟨rfl, rfl⟩⟩
  rcases hc with rfl | ⟨rfl, rfl⟩
  · refine ⟨_, _, z00o (n := 1) rfl hnew (hold _) rfl (by omega) (by decide) (by decide) (by omega), (F1.mono (by simp)).new _, hfin _ ⟨_, rfl⟩, ?_⟩
    intro c' hc'
    simp only [V.blk, List.mem_singleton] at hc'
    subst hc'; exact Nat.le_succ _
  · refine ⟨_, _, z01u (n := 1) rfl hnew (hold _) hb rfl (by omega) (by decide) (by decide), ((F1.mono (by simp)).put (.inl (by simp [V.blk])) (F1.ok.lt hb) _).new _, ?_, ?_⟩
    · have := hfin ((g.new (.cells [.int .i64 v] .rw)).put b none) ⟨_, rfl⟩
      exact this
    · intro c' hc'
      simp only [V.blk, List.mem_singleton] at hc'
      subst hc'; exact Nat.le_succ _
end Wm
end
noncomputable section
namespace Wm
attribute [local congr] zk
attribute [local irreducible] wr
theorem Seen.next {r : RSt} {n : Nat} {l : List Int} {X : Nat → Bool} (S : Seen n l X) {v : Int} (h1 : v < n) : ∃ X', Seen n (r.next l v) X' := by
  by_cases h0 : 0 ≤ v
  · cases hX : X v.toNat with
    | true => exact ⟨X, by rw [S.skip h1 (.inr hX)]; exact S⟩
    | false =>
      have := S.push (q := v.toNat) (by omega) hX
      rw [show ((v.toNat : Nat) : Int) = v from by omega] at this
      exact ⟨_, by rw [S.take h0 h1 hX]; exact this⟩
  · exact ⟨X, by rw [S.skip h1 (.inl (by omega))]; exact S⟩
theorem Seen.nexts {r : RSt} {n : Nat} : ∀ {xs : List Int} {l : List Int} {X : Nat → Bool}, Seen n l X → (∀ v ∈ xs, v < n) → ∃ X', Seen n (r.nexts l xs) X'
  | [], _, X, S, _ => ⟨X, S⟩
  | x :: xs, l, X, S, h => by
    obtain ⟨X', S'⟩ := S.next (r := r) (h x List.mem_cons_self)
    rw [zue]
    exact Seen.nexts S' fun v hv => h v (List.mem_cons_of_mem _ hv)
theorem RIn.fl_lt {k : Cfg} {r : RSt} (I : RIn k r) (n : Int) : ∀ v ∈ r.fl n, -1 ≤ v ∧ v < r.F.length := by
  intro v hv
  unfold RSt.fl at hv
  cases hf : r.F[n.toNat]? with
  | none => rw [hf] at hv; cases hv
  | some l => rw [hf] at hv; exact I.f l (List.mem_of_getElem? hf) v hv
theorem Seen.reach {k : Cfg} {r : RSt} (I : RIn k r) : ∀ (d i : Nat) {l : List Int} {X : Nat → Bool}, Seen r.F.length l X → ∃ X', Seen r.F.length (r.reach d i l) X'
  | 0, _, _, X, S => ⟨X, S⟩
  | d + 1, i, l, X, S => by
    rw [RSt.reach]
    cases hl : l[i]? with
    | none => exact ⟨X, S⟩
    | some n =>
      obtain ⟨X', S'⟩ := S.nexts (r := r) (xs := r.fl n) fun v hv => (I.fl_lt n v hv).2
      exact Seen.reach I d (i + 1) S'
theorem RIn.reached_all {k : Cfg} {r : RSt} (I : RIn k r) {n : Nat} (hn : n < r.F.length) : ∃ X, Seen r.F.length (r.reached (n : Int)) X := Seen.reach I _ _ (Seen.one hn)
theorem Grown.rowsO {kd : Go.IntKind} {g : Nat → Option Blk} {x : V} {vs : List V} {L : List (List Int)} (G : Grown g x 1 vs) (hl : vs.length = L.length) (hr : ∀ (i : Nat) (v : V) (l : List Int), vs[i]? = some v → L[i]? = some l → RowO kd g v l) : RowsO kd g x L := by
  obtain ⟨rfl, rfl⟩ | ⟨b, n, rfl, h1, hb⟩ := G
  · exact .inl ⟨rfl, List.eq_nil_of_length_eq_zero hl.symm⟩
  · have : n = L.length := by omega
    subst this
    exact .inr ⟨b, _, _, vs, rfl, hb, hl, hr⟩
theorem Grown.congr {g g' : Nat → Option Blk} {x : V} {e : Nat} {l : List V} (G : Grown g x e l) (h : ∀ b ∈ x.blk, g' b = g b) : Grown g' x e l := by
  obtain h1 | ⟨b, n, rfl, hl, hb⟩ := G
  · exact .inl h1
  · exact .inr ⟨b, n, rfl, hl, by rw [h b (by simp [V.blk])]; exact hb⟩
theorem RowO.congr {kd : Go.IntKind} {g g' : Nat → Option Blk} {x : V} {l : List Int} (R : RowO kd g x l) (h : ∀ b ∈ x.blk, g' b = g b) : RowO kd g' x l := by
  obtain h1 | ⟨b, o, c, k, cs, rfl, hb, r⟩ := R
  · exact .inl h1
  · exact .inr ⟨b, o, c, k, cs, rfl, by rw [h b (by simp [V.blk])]; exact hb, r⟩
theorem RowO.lt {kd : Go.IntKind} {g : H} {x : V} {l : List Int} (R : RowO kd g.get x l) (ok : g.ok) : ∀ b ∈ x.blk, b < g.next := by
  obtain ⟨rfl, _⟩ | ⟨b, o, c, k, cs, rfl, hb, _⟩ := R
  · simp [V.blk]
  · intro a ha; simp only [V.blk, List.mem_singleton] at ha; subst ha; exact ok.lt hb
structure Slv (x : V) : Prop where
  one : x.one = true
  cells : x.cells = [x]
  box : boxc x = some [x]
  beq : V.beq x x = true
theorem Slv.of {x : V} (h : x = .nilsl ∨ ∃ b o n c, x = .sl b o n c) : Slv x := by
  rcases h with rfl | ⟨b, o, n, c, rfl⟩
  · exact ⟨rfl, rfl, rfl, rfl⟩
  · exact ⟨rfl, rfl, rfl, z0ah b o n c⟩
theorem RowO.slv {kd : Go.IntKind} {g : Nat → Option Blk} {x : V} {l : List Int} (h : RowO kd g x l) : Slv x := by
  obtain ⟨rfl, _⟩ | ⟨b, o, c, k, cs, rfl, _⟩ := h
  · exact .of (.inl rfl)
  · exact .of (.inr ⟨_, _, _, _, rfl⟩)
theorem Grown.slv {g : Nat → Option Blk} {x : V} {e : Nat} {l : List V} (h : Grown g x e l) : Slv x := by
  obtain ⟨rfl, _⟩ | ⟨b, n, rfl, _⟩ := h
  · exact .of (.inl rfl)
  · exact .of (.inr ⟨_, _, _, _, rfl⟩)
structure RSt.small (r : RSt) : Prop where
  f : r.F.length ≤ 100000
  l : ∀ l ∈ r.F, l.length ≤ 100000
  h : r.Hs.length ≤ 100000
  w : r.Wk.length ≤ 100000
  c : r.Cm.length ≤ 100000
  g : r.Gv.length ≤ 100000
theorem z08a {l : List V} {i : Nat} (hi : i < l.length) (v : V) : z0e l i [v] = l.set i v := by
  unfold z0e
  rw [List.set_eq_take_append_cons_drop, if_pos hi, List.append_assoc]; rfl
theorem z06u {g : Option Blk} {l : List V} {k : Bk} {i : Nat} {v : V} (hg : g = some (.cells l k)) (hk : k ≠ .ro) (hi : i < l.length) (hv : v.one = true) : stB g i [v] = some (.cells (l.set i v) k) := by
  have h1 : decide (k = .ro) = false := decide_eq_false hk
  have h2 : [v].all V.one = true := by simp [hv]
  have h3 : decide (i + 1 ≤ l.length) = true := decide_eq_true hi
  rw [hg, z4e, show [v].length = 1 from rfl, h1, h2, h3]
  show some (Blk.cells (z0e l i [v]) k) = _
  rw [z08a hi]
theorem z0bw (kd : Go.IntKind) (l : List Int) (i : Nat) (v : Int) : (l.map (V.int kd)).set i (.int kd v) = (l.set i v).map (.int kd) := by rw [List.map_set]
theorem z00g {α : Type} {l : List α} {i j : Nat} {x y : α} (h : (l.set i x)[j]? = some y) : (i = j ∧ y = x) ∨ (i ≠ j ∧ l[j]? = some y) := by
  by_cases e : i = j
  · subst e
    by_cases hi : i < l.length
    · rw [List.getElem?_set_self hi] at h; exact .inl ⟨rfl, (Option.some.inj h).symm⟩
    · rw [List.getElem?_eq_none (by rw [List.length_set]; omega)] at h; cases h
  · rw [List.getElem?_set_ne e] at h; exact .inr ⟨e, h⟩
theorem z02q {α : Type} {l : List α} {f : α → α} {i j : Nat} {y : α} (h : (l.modify i f)[j]? = some y) : (i = j ∧ ∃ x, l[j]? = some x ∧ y = f x) ∨ (i ≠ j ∧ l[j]? = some y) := by
  rw [List.getElem?_modify] at h
  by_cases e : i = j
  · subst e
    cases hl : l[i]? with
    | none => rw [hl] at h; simp at h
    | some x => rw [hl] at h; simp at h; exact .inl ⟨rfl, x, rfl, h.symm⟩
  · simp only [if_neg e] at h
    cases hl : l[j]? with
    | none => rw [hl] at h; simp at h
    | some x => rw [hl] at h; simp at h; exact .inr ⟨e, by rw [h]⟩
section
variable {g0 : Nat → Option Blk} {h : H} {k : Cfg} {s : StV} {r : RSt} {c : CallR} {a : AnsR} {g : H} {p q pa po pT n0 n1 n2 n3 n4 n5 : Nat} {t : StV}
end
theorem Sub.ldB {g g' : Nat → Option Blk} (s : Sub g g') {b o : Nat} {v : V} (e : ldB (g b) o = some v) : ldB (g' b) o = some v := by
  cases hb : g b with
  | none => rw [hb] at e; cases e
  | some blk => rw [s _ _ hb, ← hb]; exact e
section
variable {g0 : Nat → Option Blk} {h : H} {k : Cfg} {s : StV} {r : RSt} {c : CallR} {a : AnsR} {g : H} {p q pa po pT n0 n1 n2 n3 n4 n5 : Nat} {t : StV}
end
def z7i (i n : Nat) : List Int := List.replicate i (-1) ++ List.replicate (n - i) 0
theorem zxb {i n : Nat} (h : i ≤ n) : (z7i i n).length = n := by unfold z7i; rw [List.length_append, List.length_replicate, List.length_replicate]; omega
theorem z0a0 (n : Nat) : z7i n n = List.replicate n (-1) := by unfold z7i; rw [Nat.sub_self, List.replicate_zero, List.append_nil]
theorem z096 (n : Nat) : repl [V.int .i64 0] n = (z7i 0 n).map (.int .i64) := by
  unfold z7i
  rw [Nat.sub_zero, List.replicate_zero, List.nil_append]
  induction n with
  | zero => rfl
  | succ n ih => simp only [repl, ih, List.replicate_succ, List.map_cons, List.cons_append, List.nil_append]
section
variable {g0 : Nat → Option Blk} {h : H} {k : Cfg} {s : StV} {r : RSt} {c : CallR} {a : AnsR} {g : H} {p q pa po pT n0 n1 n2 n3 n4 n5 : Nat} {t : StV}
end
structure ErrOk (k : Cfg) (r : RSt) (w : Int) (c : CallR) : Prop where
  rng : 1 ≤ c.kind ∧ c.kind ≤ 10
  new : c.kind = 1 → 0 ≤ c.n ∧ c.n ≤ k.a ∧ (r.held w : Int) < k.hd
  node : 2 ≤ c.kind → c.kind ≤ 8 → 0 ≤ r.node w c.h
  fld : 2 ≤ c.kind → c.kind ≤ 5 → 0 ≤ c.n ∧ c.n < ((r.fl (r.node w c.h)).length : Int)
  x : c.kind = 3 ∨ c.kind = 7 → 0 ≤ r.node w c.x
  load : c.kind = 2 → 0 ≤ r.fat (r.node w c.h) c.n → (r.held w : Int) < k.hd
  op : c.kind = 8 → r.walk w = 0
  next : c.kind = 9 → r.come w ≠ [] ∧ (r.held w : Int) < k.hd
  tok : c.kind = 9 ∨ c.kind = 10 → r.walk w ≠ 0 ∧ r.walk w = c.h
theorem z00n {k : Cfg} {r : RSt} {w : Int} {c : CallR} (h : errR k r w c = 0) : ErrOk k r w c := by
  rw [ztk] at h
  split at h
  · exact absurd h (by decide)
  rename_i hk
  have hk1 : 1 ≤ c.kind := by omega
  have hk2 : c.kind ≤ 10 := by omega
  split at h
  · rename_i k1
    split at h
    · exact absurd h (by decide)
    rename_i hn
    split at h
    · rename_i hr
      exact ⟨⟨hk1, hk2⟩, fun _ => ⟨by omega, by omega, hr⟩, fun q _ => by omega, fun q _ => by omega, fun q => by omega, fun q => by omega, fun q => by omega, fun q => by omega, fun q => by omega⟩
    · exact absurd h (by decide)
  rename_i k1
  split at h
  · rename_i k9
    unfold err6 at h
    split at h
    · exact absurd h (by decide)
    rename_i h6
    split at h
    · exact absurd h (by decide)
    rename_i h5
    refine ⟨⟨hk1, hk2⟩, fun q => absurd q k1, fun q _ => by omega, fun q _ => by omega, fun q => by omega, fun q => by omega, fun q => by omega, fun q => ⟨fun e => h6 (.inr (.inr ⟨q, by rw [e]; rfl⟩)), ?_⟩, fun _ => ⟨fun e => h6 (.inl e), ?_⟩⟩
    · exact Decidable.of_not_not fun e => h5 ⟨q, e⟩
    · exact Decidable.of_not_not fun e => h6 (.inr (.inl e))
  rename_i k9
  unfold err9 at h
  split at h
  · exact absurd h (by decide)
  rename_i h2
  unfold zpe at h
  split at h
  · exact absurd h (by decide)
  rename_i h3
  unfold z00a at h
  split at h
  · exact absurd h (by decide)
  rename_i h5
  split at h
  · exact absurd h (by decide)
  rename_i h7
  refine ⟨⟨hk1, hk2⟩, fun q => absurd q k1, fun _ _ => ?_, fun q1 q2 => ?_, fun q => ?_, fun q1 q2 => ?_, fun q => ?_, fun q => absurd (.inl q) k9, fun q => absurd q k9⟩
  · exact Int.not_lt.mp fun e => h2 (.inl e)
  · refine ⟨Int.not_lt.mp fun e => h3 ⟨⟨q1, q2⟩, .inl e⟩, Int.not_le.mp fun e => h3 ⟨⟨q1, q2⟩, .inr e⟩⟩
  · exact Decidable.of_not_not fun e => h2 (.inr (.inl ⟨q, e⟩))
  · exact Decidable.of_not_not fun e => h5 ⟨q1, q2, e⟩
  · exact Decidable.of_not_not fun e => h7 ⟨q, e⟩
section
variable {g0 : Nat → Option Blk} {h : H} {k : Cfg} {s : StV} {r : RSt} {c : CallR} {a : AnsR} {g : H} {p q pa po pT n0 n1 n2 n3 n4 n5 : Nat} {t : StV}
theorem z0d0 {cs l : List V} (h : l.length = cs.length) (h1 : l.all V.one = true) : stB (some (.cells cs .rw)) 0 l = some (.cells l .rw) := by
  have hd : decide (Bk.rw = Bk.ro) = false := rfl
  have hl : decide (0 + l.length ≤ cs.length) = true := decide_eq_true (by omega)
  rw [z4e, hd, h1, hl]
  show some (Blk.cells (z0e cs 0 l) .rw) = _
  unfold z0e
  rw [List.take_zero, List.nil_append, List.drop_of_length_le (by omega), List.append_nil]
end
end Wm
end
noncomputable section
namespace Wm
attribute [local irreducible] wr
structure RSz (k : Cfg) (n : Nat) (r : RSt) : Prop where
  f : r.F.length ≤ n
  l : ∀ l ∈ r.F, (l.length : Int) ≤ k.a
  h : r.Hs.length ≤ n
  g : r.Gv.length ≤ n
theorem RSz.small {k : Cfg} {n : Nat} {r : RSt} (Z : RSz k n r) (I : RIn k r) (hn : n ≤ 100000) (ka : k.a ≤ 100000) (kc : k.C ≤ 100000) : r.small :=
  ⟨by have := Z.f; omega, fun l hl => by have := Z.l l hl; omega, by have := Z.h; omega, by have := I.wk; omega, by have := I.cm; omega, by have := Z.g; omega⟩
theorem RSz.mono {k : Cfg} {n m : Nat} {r : RSt} (Z : RSz k n r) (h : n ≤ m) : RSz k m r := ⟨by have := Z.f; omega, Z.l, by have := Z.h; omega, by have := Z.g; omega⟩
theorem z00v {α : Type} {l : List α} {i : Nat} {f : α → α} {y : α} (h : y ∈ l.modify i f) : y ∈ l ∨ ∃ x ∈ l, y = f x := by
  obtain ⟨j, hj⟩ := List.mem_iff_getElem?.mp h
  rcases z02q hj with ⟨_, x, hx, rfl⟩ | ⟨_, hx⟩
  · exact .inr ⟨x, List.mem_of_getElem? hx, rfl⟩
  · exact .inl (List.mem_of_getElem? hx)
theorem zid {α : Type} {l : List α} {i : Nat} {x y : α} (h : y ∈ l.set i x) : y = x ∨ y ∈ l := by
  obtain ⟨j, hj⟩ := List.mem_iff_getElem?.mp h
  rcases z00g hj with ⟨_, rfl⟩ | ⟨_, hx⟩
  · exact .inl rfl
  · exact .inr (List.mem_of_getElem? hx)
theorem RIn.come_mem {k : Cfg} {r : RSt} (I : RIn k r) (w : Int) : ∀ n ∈ r.come w, 0 ≤ n ∧ n < r.F.length := by
  intro n hn
  unfold RSt.come at hn
  cases hc : r.Cm[w.toNat]? with
  | none => rw [hc] at hn; cases hn
  | some l => rw [hc] at hn; exact I.come l (List.mem_of_getElem? hc) n hn
theorem RIn.setF {k : Cfg} {r : RSt} (I : RIn k r) (n i v : Int) (h : -1 ≤ v ∧ v < r.F.length) : RIn k (r.setF n i v) := by
  have hl : (r.setF n i v).F.length = r.F.length := List.length_modify _ _ _
  refine ⟨I.wk, I.cm, fun l hl' x hx => ?_, fun x hx => ?_, I.nd, fun l hl' x hx => ?_, I.wu, I.gu⟩
  · rw [hl]
    rcases z00v hl' with q | ⟨m, q, rfl⟩
    · exact I.f l q x hx
    · rcases zid hx with rfl | hx
      · exact h
      · exact I.f m q x hx
  · rw [hl]; exact I.hs x hx
  · rw [hl]; exact I.come l hl' x hx
theorem RIn.gives {k : Cfg} {r : RSt} (I : RIn k r) {w q n : Int} (w0 : 0 ≤ w) (w1 : w < k.c) (hq : r.fresh q = true) (hu : U64 q) (hn : 0 ≤ n ∧ n < r.F.length) : RIn k (r.gives w q n) := by
  unfold RSt.fresh at hq
  simp only [Bool.and_eq_true, Bool.not_eq_true', decide_eq_false_iff_not, List.contains_eq_mem] at hq
  obtain ⟨hq1, hq0⟩ := hq
  refine ⟨I.wk, I.cm, I.f, fun x hx => ?_, ?_, I.come, I.wu, fun x hx => ?_⟩
  · rcases List.mem_append.mp hx with h | h
    · have := I.hs x h
      exact ⟨this.1, this.2.1, List.mem_append_left _ this.2.2.1, this.2.2.2⟩
    · simp only [List.mem_singleton] at h
      subst h
      exact ⟨⟨w0, w1⟩, hn, List.mem_append_right _ (by simp), hq0, hu⟩
  · show (r.Hs ++ [_]).Pairwise _
    rw [List.pairwise_append]
    refine ⟨I.nd, List.pairwise_singleton _ _, fun x hx y hy => ?_⟩
    simp only [List.mem_singleton] at hy
    subst hy
    rintro ⟨_, e⟩
    have hm := (I.hs x hx).2.2.1
    have e' : x.h = q := e
    rw [e'] at hm
    exact hq1 hm
  · rcases List.mem_append.mp hx with h | h
    · exact I.gu x h
    · simp only [List.mem_singleton] at h; subst h; exact hu
theorem RIn.newF {k : Cfg} {r : RSt} (I : RIn k r) (n : Nat) : RIn k { r with F := r.F ++ [List.replicate n (-1)] } := by
  have hl : (r.F ++ [List.replicate n (-1 : Int)]).length = r.F.length + 1 := by rw [List.length_append]; rfl
  refine ⟨I.wk, I.cm, fun l hl' x hx => ?_, fun x hx => ?_, I.nd, fun l hl' x hx => ?_, I.wu, I.gu⟩
  · show -1 ≤ x ∧ x < ((r.F ++ [List.replicate n (-1 : Int)]).length : Nat)
    rw [hl]
    rcases List.mem_append.mp hl' with q | q
    · have := I.f l q x hx; omega
    · simp only [List.mem_singleton] at q
      subst q
      have := (List.mem_replicate.mp hx).2
      omega
  · show _ ∧ (_ ∧ x.n < ((r.F ++ [List.replicate n (-1 : Int)]).length : Nat)) ∧ _
    rw [hl]
    have := I.hs x hx
    exact ⟨this.1, ⟨this.2.1.1, by omega⟩, this.2.2⟩
  · show _ ∧ x < ((r.F ++ [List.replicate n (-1 : Int)]).length : Nat)
    rw [hl]
    have := I.come l hl' x hx; omega
theorem z08x {k : Cfg} {r : RSt} {w : Int} {c : CallR} {a : AnsR} (h : okR k r w c a = true) (he : errR k r w c = 0) (ha : a.err = 0) : (z73 r w c = true → r.fresh a.h = true) ∧ a.yes = yesR r w c ∧ 0 ≤ w ∧ w < k.c := by
  unfold okR at h
  split at h
  · cases h
  rename_i hw
  rw [if_neg (by rw [he]; simp), if_neg (by omega)] at h
  simp only [Bool.and_eq_true, decide_eq_true_eq] at h
  refine ⟨fun hg => ?_, h.1.2, by omega, by omega⟩
  have := h.2
  rw [if_pos hg] at this
  exact this
theorem RIn.done {k : Cfg} {r : RSt} (I : RIn k r) {w : Int} {c : CallR} {a : AnsR} (h : okR k r w c a = true) (he : errR k r w c = 0) (ha : a.err = 0) (hu : U64 a.h) : RIn k (z4c r w c a) := by
  obtain ⟨hf, _, w0, w1⟩ := z08x h he ha
  have E := z00n he
  have nodeB : ∀ q, -1 ≤ r.node w q ∧ r.node w q < r.F.length ∨ r.node w q = -1 := fun q => by
    rcases I.node w q with e | e
    · exact .inr e
    · exact .inl (by omega)
  have node' : ∀ q, 0 ≤ r.node w q → -1 ≤ r.node w q ∧ r.node w q < r.F.length := fun q hq => by
    rcases nodeB q with e | e
    · exact e
    · omega
  unfold z4c
  split
  · rename_i k1
    exact (I.newF _).gives w0 w1 (hf (by unfold z73; rw [decide_eq_true k1]; rfl)) hu ⟨by omega, by rw [List.length_append, List.length_singleton]; omega⟩
  split
  · rename_i k2
    split
    · rename_i hg
      refine I.gives w0 w1 (hf hg) hu ?_
      unfold z73 at hg
      rw [k2] at hg
      have hfat : 0 ≤ r.fat (r.node w c.h) c.n := by simpa using hg
      refine ⟨hfat, ?_⟩
      obtain ⟨h0, h1⟩ := E.fld (by omega) (by omega)
      obtain ⟨j, _, hj⟩ := RSt.fatAt h0 h1
      exact (I.fl_lt _ _ (List.mem_of_getElem? hj)).2
    · exact I
  split
  · rename_i k3
    exact I.setF _ _ _ (node' _ (E.x (.inl k3)))
  split
  · obtain ⟨n, hn, hF⟩ := I.flAt (E.node (by omega) (by omega))
    exact I.setF _ _ _ ⟨by omega, by have := z01 hF; omega⟩
  split
  · split
    · obtain ⟨n, hn, hF⟩ := I.flAt (E.node (by omega) (by omega))
      refine I.setF _ _ _ ?_
      rcases nodeB c.x with e | e
      · exact e
      · have := z01 hF; omega
    · exact I
  split
  · refine ⟨I.wk, I.cm, I.f, fun x hx => I.hs x (List.mem_filter.mp hx).1, I.nd.filter _, I.come, I.wu, I.gu⟩
  split
  · rename_i k8
    obtain ⟨n, hn, hF⟩ := I.flAt (E.node (by omega) (by omega))
    have hfr := hf (by unfold z73; rw [k8]; simp)
    refine ⟨by rw [List.length_set]; exact I.wk, by rw [List.length_set]; exact I.cm, I.f, fun x hx => ?_, I.nd, fun l hl x hx => ?_, fun x hx => ?_, fun x hx => ?_⟩
    · have := I.hs x hx
      exact ⟨this.1, this.2.1, List.mem_append_left _ this.2.2.1, this.2.2.2⟩
    · rcases zid hl with rfl | hl
      · rw [hn] at hx
        obtain ⟨X, S⟩ := I.reached_all (z01 hF)
        have := S.all x hx
        exact ⟨this.1, this.2⟩
      · exact I.come l hl x hx
    · rcases zid hx with rfl | hx
      · exact hu
      · exact I.wu x hx
    · rcases List.mem_append.mp hx with h | h
      · exact I.gu x h
      · simp only [List.mem_singleton] at h; subst h; exact hu
  split
  · rename_i k9
    have hfr := hf (by unfold z73; rw [k9]; simp)
    obtain ⟨hc, _⟩ := E.next k9
    have hcm := I.come_mem w
    cases hcc : r.come w with
    | nil => exact absurd hcc hc
    | cons x xs =>
      rw [hcc] at hcm
      have I1 := I.gives (n := x) w0 w1 hfr hu (hcm x List.mem_cons_self)
      refine ⟨I1.wk, by rw [List.length_set]; exact I.cm, I1.f, I1.hs, I1.nd, fun l hl y hy => ?_, I1.wu, I1.gu⟩
      rcases zid hl with rfl | hl
      · exact hcm y (List.mem_cons_of_mem _ hy)
      · exact I.come l hl y hy
  split
  · refine ⟨by rw [List.length_set]; exact I.wk, by rw [List.length_set]; exact I.cm, I.f, I.hs, I.nd, fun l hl y hy => ?_, fun x hx => ?_, I.gu⟩
    · rcases zid hl with rfl | hl
      · cases hy
      · exact I.come l hl y hy
    · rcases zid hx with rfl | hx
      · exact ⟨by decide, by decide⟩
      · exact I.wu x hx
  · exact I
theorem RIn.do {k : Cfg} {r : RSt} (I : RIn k r) (w : Int) (c : CallR) {a : AnsR} (hu : U64 a.h) : RIn k (doR k r w c a) := by
  unfold doR zqj
  split
  · rename_i h
    simp only [Bool.and_eq_true, decide_eq_true_eq] at h
    exact I.done h.1.1 h.1.2 h.2 hu
  · exact I
theorem RSz.done {k : Cfg} {n : Nat} {r : RSt} (Z : RSz k n r) {w : Int} {c : CallR} {a : AnsR} (he : errR k r w c = 0) : RSz k (n + 1) (z4c r w c a) := by
  have E := z00n he
  have Z1 := Z.mono (Nat.le_succ n)
  have gv : ∀ (r' : RSt) (q m : Int), r'.F = r.F → r'.Hs = r.Hs → r'.Gv = r.Gv → RSz k (n + 1) (r'.gives w q m) := fun r' q m h1 h2 h3 => by
    have := Z.h; have := Z.g; have := Z.f
    refine ⟨by rw [show (r'.gives w q m).F = r'.F from rfl, h1]; omega, by rw [show (r'.gives w q m).F = r'.F from rfl, h1]; exact Z.l, ?_, ?_⟩
    · rw [show (r'.gives w q m).Hs = r'.Hs ++ [⟨w, q, m⟩] from rfl, h2, List.length_append, List.length_singleton]; omega
    · rw [show (r'.gives w q m).Gv = r'.Gv ++ [q] from rfl, h3, List.length_append, List.length_singleton]; omega
  have st : ∀ (n' i v : Int), RSz k (n + 1) (r.setF n' i v) := fun n' i v => by
    refine ⟨by rw [show (r.setF n' i v).F = r.F.modify n'.toNat fun l => l.set i.toNat v from rfl, List.length_modify]; exact Z1.f, fun l hl => ?_, Z1.h, Z1.g⟩
    rcases z00v hl with q | ⟨m, q, rfl⟩
    · exact Z.l l q
    · rw [List.length_set]; exact Z.l m q
  unfold z4c
  split
  · rename_i k1
    obtain ⟨h0, h1, _⟩ := E.new k1
    have := Z.h; have := Z.g; have := Z.f
    refine ⟨?_, fun l hl => ?_, ?_, ?_⟩
    · show (r.F ++ [_]).length ≤ _
      rw [List.length_append, List.length_singleton]; omega
    · have hl' : l ∈ r.F ++ [List.replicate c.n.toNat (-1)] := hl
      rcases List.mem_append.mp hl' with q | q
      · exact Z.l l q
      · simp only [List.mem_singleton] at q
        subst q
        rw [List.length_replicate]; omega
    · show (r.Hs ++ [_]).length ≤ _
      rw [List.length_append, List.length_singleton]; omega
    · show (r.Gv ++ [_]).length ≤ _
      rw [List.length_append, List.length_singleton]; omega
  split
  · split
    · exact gv r _ _ rfl rfl rfl
    · exact Z1
  split
  · exact st _ _ _
  split
  · exact st _ _ _
  split
  · split
    · exact st _ _ _
    · exact Z1
  split
  · exact ⟨Z1.f, Z1.l, Nat.le_trans (List.length_filter_le _ _) Z1.h, Z1.g⟩
  split
  · refine ⟨Z1.f, Z1.l, Z1.h, ?_⟩
    show (r.Gv ++ [_]).length ≤ _
    have := Z.g
    rw [List.length_append, List.length_singleton]; omega
  split
  · have := gv r a.h ((r.come w).headD 0) rfl rfl rfl
    exact ⟨this.f, this.l, this.h, this.g⟩
  split
  · exact ⟨Z1.f, Z1.l, Z1.h, Z1.g⟩
  · exact Z1
theorem RSz.do {k : Cfg} {n : Nat} {r : RSt} (Z : RSz k n r) (w : Int) (c : CallR) (a : AnsR) : RSz k (n + 1) (doR k r w c a) := by
  unfold doR zqj
  split
  · rename_i h
    simp only [Bool.and_eq_true, decide_eq_true_eq] at h
    exact Z.done h.1.2
  · exact Z.mono (Nat.le_succ n)
end Wm
end
noncomputable section
namespace Wm
attribute [local congr] zk
attribute [local irreducible] wr
def z2b (l : List HoldR) (i : Nat) : List (V × V) := (l.filter fun x => decide (x.c = (i : Int))).map fun x => (.int .u64 x.h, .int .i64 x.n)
def z5f (l : List Int) : List (V × V) := l.map fun q => (.int .u64 q, .int .i64 1)
theorem z07l (l : List HoldR) (i : Nat) : (z2b l i).length = z07e l (i : Int) := by unfold z2b z07e; rw [List.length_map]
theorem zpk (x : HoldR) (l : List HoldR) (i : Nat) : z2b (x :: l) i = if x.c = (i : Int) then (.int .u64 x.h, .int .i64 x.n) :: z2b l i else z2b l i := by
  unfold z2b
  rw [List.filter_cons]
  by_cases h : x.c = (i : Int)
  · rw [if_pos h, if_pos (by simp [h]), List.map_cons]
  · rw [if_neg h, if_neg (by simp [h])]
theorem ztw (a b : Int) : z5u .int (.int .u64 a) (.int .u64 b) = some (decide (a = b)) := by simp [z5u]
theorem zq5 : ∀ (l : List HoldR) (i : Nat) (q : Int), findKey .int (.int .u64 q) (z2b l i) = some ((l.find? fun x => x.is (i : Int) q).map fun x => .int .i64 x.n)
  | [], i, q => rfl
  | x :: l, i, q => by
    have ih := zq5 l i q
    rw [zpk, List.find?_cons]
    by_cases h : x.c = (i : Int)
    · rw [if_pos h]
      simp only [findKey, ztw]
      by_cases hq : q = x.h
      · have hx : x.is (i : Int) q = true := by unfold HoldR.is; simp [h, hq]
        rw [decide_eq_true hq, hx]; rfl
      · have hx : x.is (i : Int) q = false := by unfold HoldR.is; simp [h]; exact fun e => hq e.symm
        rw [decide_eq_false hq, hx]; exact ih
    · rw [if_neg h]
      have hx : x.is (i : Int) q = false := by unfold HoldR.is; simp [h]
      rw [hx]; exact ih
theorem zki : ∀ (l : List Int) (q : Int), findKey .int (.int .u64 q) (z5f l) = some (if l.contains q then some (.int .i64 1) else none)
  | [], q => rfl
  | x :: l, q => by
    have ih := zki l q
    unfold z5f at ih ⊢
    rw [List.map_cons, List.contains_cons]
    simp only [findKey, ztw]
    by_cases hq : q = x
    · rw [decide_eq_true hq]; subst hq; simp
    · rw [decide_eq_false hq]
      have : (q == x) = false := by simp [hq]
      rw [this, Bool.false_or]; exact ih
theorem zqm {k : V} (x : V) : ∀ {es : List (V × V)}, findKey .int k es = some none → zk7 .int k x es = some (es ++ [(k, x)])
  | [], _ => rfl
  | (a, v) :: es, h => by
    simp only [findKey] at h
    simp only [zk7]
    cases he : z5u .int k a with
    | none => rw [he] at h; cases h
    | some b =>
      rw [he] at h
      cases b with
      | true => cases h
      | false => simp only at h ⊢; rw [zqm x h]; rfl
theorem zxa : ∀ (l : List HoldR) (i : Nat) (q : Int), l.Pairwise (fun x y => ¬ (x.c = y.c ∧ x.h = y.h)) → zps .int (.int .u64 q) (z2b l i) = some (z2b (l.filter fun x => !(x.is (i : Int) q)) i)
  | [], i, q, _ => rfl
  | x :: l, i, q, hp => by
    rw [List.pairwise_cons] at hp
    have ih := zxa l i q hp.2
    rw [zpk, List.filter_cons]
    by_cases h : x.c = (i : Int)
    · rw [if_pos h]
      simp only [zps, ztw]
      by_cases hq : q = x.h
      · have hx : x.is (i : Int) q = true := by unfold HoldR.is; simp [h, hq]
        rw [decide_eq_true hq, hx]
        -- no other one has that key
        have hall : l.filter (fun y => !(y.is (i : Int) q)) = l := by
          rw [List.filter_eq_self]
          intro y hy
          have := hp.1 y hy
          cases hyi : y.is (i : Int) q with
          | false => rfl
          | true =>
            unfold HoldR.is at hyi
            simp only [Bool.and_eq_true, decide_eq_true_eq] at hyi
            exact absurd ⟨h.trans hyi.1.symm, hq ▸ hyi.2.symm⟩ this
        show some (z2b l i) = _
        rw [if_neg (by simp), hall]
      · have hx : x.is (i : Int) q = false := by unfold HoldR.is; simp [h]; exact fun e => hq e.symm
        rw [decide_eq_false hq, hx]
        simp only [ih]
        rw [if_pos (by simp), zpk, if_pos h]
    · rw [if_neg h]
      have hx : x.is (i : Int) q = false := by unfold HoldR.is; simp [h]
      rw [hx, if_pos (by simp), zpk, if_neg h]; exact ih
structure MdB where
  b : Nat
  xF : V
  vs : List V
  bs : List Nat
  bh : Nat
  ms : List Nat
  bw : Nat
  ns : List V
  gm : Nat
  kw : Bool
def MdB.kb (B : MdB) : Bk := match B.kw with | true => .rw | false => .gr 2
def MdB.cw (B : MdB) (n : Nat) : Cap := match B.kw with | true => .ex n | false => .op 2
theorem MdB.kb_ne (B : MdB) : B.kb ≠ .ro := by unfold MdB.kb; cases B.kw <;> simp
theorem MdB.kb_ro (B : MdB) : decide (B.kb = .ro) = false := decide_eq_false B.kb_ne
def MdB.l (B : MdB) : List Nat := B.b :: B.bh :: B.bw :: B.gm :: (B.ms ++ (B.xF.blk ++ B.bs))
def MdB.nb (B : MdB) : List Nat := (B.ns.map V.blk).flatten
def z21 : List Int → List V → List V
  | q :: l, v :: m => .int .u64 q :: v :: z21 l m
  | _, _ => []
structure MdAt (k : Cfg) (g : Nat → Option Blk) (B : MdB) (r : RSt) : Prop where
  nd : B.l.Nodup
  nn : ∀ a ∈ B.nb, a ∉ B.l
  own : g B.b = some (.cells [.int .i64 k.s, .int .i64 k.a, .int .i64 k.c, .int .i64 k.hd, .int .i64 k.g, .int .i64 k.st, B.xF, .sl B.bh 0 k.C (.op 1), .sl B.bw 0 k.C (B.cw k.C), .map B.gm] .rw)
  fo : Grown g B.xF 1 B.vs
  fl : B.vs.length = r.F.length ∧ B.bs.length = r.F.length
  fr : ∀ (i : Nat) (v : V) (b : Nat) (l : List Int), B.vs[i]? = some v → B.bs[i]? = some b → r.F[i]? = some l → ∃ c k, v = .sl b 0 l.length c ∧ g b = some (.cells (l.map (.int .i64)) k) ∧ k ≠ .ro ∧ (c = .op 1 ∨ ∃ n, c = .ex n ∧ l.length ≤ n)
  ho : g B.bh = some (.cells (B.ms.map .map) (.gr 1))
  hl : B.ms.length = k.C
  hm : ∀ (i m : Nat), B.ms[i]? = some m → g m = some (.map (z2b r.Hs i))
  wo : g B.bw = some (.cells (z21 r.Wk B.ns) B.kb)
  wl : r.Wk.length = k.C ∧ B.ns.length = k.C ∧ r.Cm.length = k.C
  wr : ∀ (i : Nat) (v : V) (l : List Int), B.ns[i]? = some v → r.Cm[i]? = some l → RowO .i64 g v l
  gv : g B.gm = some (.map (z5f r.Gv))
theorem zs4 : ∀ {l : List Int} {m : List V} {i : Nat} {q : Int} {v : V}, l[i]? = some q → m[i]? = some v → (z21 l m)[i * 2]? = some (.int .u64 q) ∧ (z21 l m)[i * 2 + 1]? = some v
  | [], _, i, _, _, h, _ => by simp at h
  | _ :: _, [], i, _, _, _, h => by simp at h
  | a :: l, b :: m, 0, q, v, h1, h2 => by
    simp only [List.getElem?_cons_zero, Option.some.injEq] at h1 h2
    subst h1; subst h2; exact ⟨rfl, rfl⟩
  | a :: l, b :: m, i + 1, q, v, h1, h2 => by
    have := zs4 (l := l) (m := m) (i := i) h1 h2
    rw [show (i + 1) * 2 = i * 2 + 1 + 1 from by omega]
    exact this
theorem zmg : ∀ {l : List Int} {m : List V}, l.length = m.length → (z21 l m).length = l.length * 2
  | [], [], _ => rfl
  | a :: l, b :: m, h => by
    have := zmg (l := l) (m := m) (by simpa using h)
    simp only [z21, List.length_cons, this]; omega
  | [], _ :: _, h => by simp at h
  | _ :: _, [], h => by simp at h
theorem MdAt.rows {k : Cfg} {g : Nat → Option Blk} {B : MdB} {r : RSt} (M : MdAt k g B r) : RowsO .i64 g B.xF r.F :=
  M.fo.rowsO M.fl.1 fun i v l h1 h2 => by
    have h3 : i < B.bs.length := by have := z01 h2; have := M.fl.2; omega
    obtain ⟨c, kk, rfl, hb, hk, hc⟩ := M.fr i v _ l h1 (List.getElem?_eq_getElem h3) h2
    exact .inr ⟨_, 0, c, kk, _, rfl, hb, by rw [List.drop_zero, List.take_of_length_le (by rw [List.length_map]; omega)], by rw [List.length_map]; omega, hc⟩
theorem MdAt.fr' {k : Cfg} {g g' : H} {B : MdB} {r : RSt} {L : List Nat} (M : MdAt k g.get B r) (ok : g.ok) (F : Fr L g g') (h1 : ∀ b ∈ B.l, b ∉ L) (h2 : ∀ b ∈ B.nb, b ∉ L) : MdAt k g'.get B r := by
  have inl : ∀ {b : Nat} {x : Blk}, g.get b = some x → b ∈ B.l → g'.get b = some x := fun hb hm => F.get ok hb (h1 _ hm)
  refine ⟨M.nd, M.nn, inl M.own (by simp [MdB.l]), M.fo.congr fun b hb => F.same b (M.fo.lt ok b hb) (h1 b (by simp [MdB.l, hb])), M.fl, fun i v b l e1 e2 e3 => ?_, inl M.ho (by simp [MdB.l]), M.hl, fun i m hm => inl (M.hm i m hm) (by simp [MdB.l, List.mem_of_getElem? hm]), inl M.wo (by simp [MdB.l]), M.wl, fun i v l e1 e2 => ?_, inl M.gv (by simp [MdB.l])⟩
  · obtain ⟨c, kk, e, hb, r⟩ := M.fr i v b l e1 e2 e3
    exact ⟨c, kk, e, inl hb (by simp [MdB.l, List.mem_of_getElem? e2]), r⟩
  · have R := M.wr i v l e1 e2
    exact R.congr fun b hb => F.same b (R.lt ok b hb) (h2 b (by
      unfold MdB.nb
      exact List.mem_flatten.mpr ⟨v.blk, List.mem_map.mpr ⟨v, List.mem_of_getElem? e1, rfl⟩, hb⟩))
theorem MdAt.fr0 {k : Cfg} {g g' : H} {B : MdB} {r : RSt} (M : MdAt k g.get B r) (ok : g.ok) (F : Fr [] g g') : MdAt k g'.get B r := M.fr' ok F (by simp) (by simp)
section
variable {k : Cfg} {g : H} {B : MdB} {r : RSt}
theorem MdAt.l1 (M : MdAt k g.get B r) : ldB (g.get B.b) 1 = some (.int .i64 k.a) := by rw [M.own]; rfl
theorem MdAt.l2 (M : MdAt k g.get B r) : ldB (g.get B.b) 2 = some (.int .i64 k.c) := by rw [M.own]; rfl
theorem MdAt.l3 (M : MdAt k g.get B r) : ldB (g.get B.b) 3 = some (.int .i64 k.hd) := by rw [M.own]; rfl
theorem MdAt.l6 (M : MdAt k g.get B r) : ldB (g.get B.b) 6 = some B.xF := by
  rw [M.own, zf]; simp only [List.getElem?_cons_succ, List.getElem?_cons_zero, M.fo.slv.one]
theorem MdAt.l7 (M : MdAt k g.get B r) : ldB (g.get B.b) 7 = some (.sl B.bh 0 k.C (.op 1)) := by rw [M.own]; rfl
theorem MdAt.l8 (M : MdAt k g.get B r) : ldB (g.get B.b) 8 = some (.sl B.bw 0 k.C (B.cw k.C)) := by rw [M.own]; rfl
theorem MdAt.l9 (M : MdAt k g.get B r) : ldB (g.get B.b) 9 = some (.map B.gm) := by rw [M.own]; rfl
theorem MdAt.map (M : MdAt k g.get B r) {w : Int} (h0 : 0 ≤ w) (h1 : w < k.c) : ∃ (i m : Nat), w = (i : Int) ∧ B.ms[i]? = some m ∧ za 1 (.sl B.bh 0 k.C (.op 1)) (.int .i64 w) = some (.ptr B.bh i) ∧ ldB (g.get B.bh) i = some (.map m) ∧ g.get m = some (.map (z2b r.Hs i)) := by
  have hC : (k.C : Int) = k.c := by unfold Cfg.C; omega
  have hl := M.hl
  obtain ⟨m, hm⟩ : ∃ m, B.ms[w.toNat]? = some m := ⟨_, List.getElem?_eq_getElem (by omega)⟩
  refine ⟨w.toNat, m, by omega, hm, ?_, ?_, M.hm _ _ hm⟩
  · have := zu (b := B.bh) (n := k.C) (i := w.toNat) (c := .op 1) (by omega)
    rw [show ((w.toNat : Nat) : Int) = w from by omega] at this
    exact this
  · rw [M.ho, zf, List.getElem?_map, hm]; rfl
theorem MdAt.walk (M : MdAt k g.get B r) {w : Int} (h0 : 0 ≤ w) (h1 : w < k.c) : ∃ (i : Nat) (v : V), w = (i : Int) ∧ B.ns[i]? = some v ∧ r.Wk[i]? = some (r.walk w) ∧ r.Cm[i]? = some (r.come w) ∧ za 2 (.sl B.bw 0 k.C (B.cw k.C)) (.int .i64 w) = some (.ptr B.bw (i * 2)) ∧ ldB (g.get B.bw) (i * 2) = some (.int .u64 (r.walk w)) ∧ ldB (g.get B.bw) (i * 2 + 1) = some v ∧ RowO .i64 g.get v (r.come w) := by
  have hC : (k.C : Int) = k.c := by unfold Cfg.C; omega
  obtain ⟨w1, w2, w3⟩ := M.wl
  obtain ⟨v, hv⟩ : ∃ v, B.ns[w.toNat]? = some v := ⟨_, List.getElem?_eq_getElem (by omega)⟩
  have hW : r.Wk[w.toNat]? = some (r.walk w) := by unfold RSt.walk; rw [List.getElem?_eq_getElem (by omega)]; rfl
  have hCm : r.Cm[w.toNat]? = some (r.come w) := by unfold RSt.come; rw [List.getElem?_eq_getElem (by omega)]; rfl
  obtain ⟨e1, e2⟩ := zs4 hW hv
  have R := M.wr _ v _ hv hCm
  refine ⟨w.toNat, v, by omega, hv, hW, hCm, ?_, ?_, ?_, R⟩
  · have := zze (b := B.bw) (n := k.C) (i := w.toNat) (e := 2) (c := B.cw k.C) (by omega)
    rw [show ((w.toNat : Nat) : Int) = w from by omega] at this
    exact this
  · rw [M.wo, zf, e1]; rfl
  · rw [M.wo, zf, e2]; simp only [R.slv.one]
theorem zq7 (M : MdAt k g.get B r) (w : Int) : C 279 [.ptr B.b 0, .int .i64 w] g = some (.bool (decide (0 ≤ w) && decide (w < k.c)), g) := by
  refine zi8 (af := F.z4b) (by kernel_rfl) rfl ?_
  rw [S.ztb]
  have l2 := M.l2
  cases d0 : decide (0 ≤ w) with
  | true => simp only [S.z4b, zj, z1t, zg, zd, zb, Nat.zero_add, Nat.add_zero, ze, Bool.true_and, Bool.not_false, eqV, zj, eqV, z1t, d0, l2]
  | false => simp only [S.z4b, z1t, zd, Bool.false_and, Bool.not_false, eqV, eqV, z1t, d0]
theorem zsx (M : MdAt k g.get B r) (w : Int) : C 105 [.ptr B.b 0, .int .i64 w] g = some (.int .i64 (if 0 ≤ w ∧ w < k.c then (r.held w : Int) else 0), g) := by
  refine zi8 (af := F.z5k) (by kernel_rfl) rfl ?_
  rw [S.zv5]
  have hc := zq7 M w
  by_cases hw : 0 ≤ w ∧ w < k.c
  · rw [decide_eq_true hw.1, decide_eq_true hw.2] at hc
    rw [if_pos hw]
    obtain ⟨i, m, rfl, hm, i1, l1, e1⟩ := M.map hw.1 hw.2
    have l7 := M.l7
    have hes : g.entries (.map m) = some (z2b r.Hs i) := by simp only [H.entries, e1]
    have hl := z07l r.Hs i
    simp only [S.z5k, zj, zg, zd, zb, Nat.zero_add, z04, Bool.not_true, Bool.and_self, zh, hc, l7, i1, l1, hes, hl]; rfl
  · have hcf : (decide (0 ≤ w) && decide (w < k.c)) = false := by
      rcases Classical.em (0 ≤ w) with h | h
      · rw [decide_eq_false (fun q => hw ⟨h, q⟩), Bool.and_false]
      · rw [decide_eq_false h, Bool.false_and]
    rw [hcf] at hc
    rw [if_neg hw]
    simp only [S.z5k, zj, zg, zd, zb, Nat.zero_add, z04, Bool.not_false, zh, hc]
theorem zcp (M : MdAt k g.get B r) (w q : Int) : C 106 [.ptr B.b 0, .int .i64 w, .int .u64 q] g = some (.int .i64 (if 0 ≤ w ∧ w < k.c then r.node w q else -1), g) := by
  refine zi8 (af := F.z4f) (by kernel_rfl) rfl ?_
  rw [S.zvz]
  have hc := zq7 M w
  by_cases hw : 0 ≤ w ∧ w < k.c
  · rw [decide_eq_true hw.1, decide_eq_true hw.2] at hc
    rw [if_pos hw]
    obtain ⟨i, m, rfl, hm, i1, l1, e1⟩ := M.map hw.1 hw.2
    have l7 := M.l7
    have hlk : g.look .int (.int .i64 0) true (.map m) (.int .u64 q) = some (match (r.Hs.find? fun x => x.is (i : Int) q) with | some x => .tup [.int .i64 x.n, .bool true] | none => .tup [.int .i64 0, .bool false]) := by
      simp only [H.look, zne, H.entries, e1, zq5]
      cases (r.Hs.find? fun x => x.is (i : Int) q) <;> rfl
    have hn : r.node (i : Int) q = match (r.Hs.find? fun x => x.is (i : Int) q) with | some x => x.n | none => -1 := rfl
    rw [hn]
    cases hf : (r.Hs.find? fun x => x.is (i : Int) q) with
    | some x => rw [hf] at hlk; simp only [S.z4f, zj, zg, zd, zb, List.getElem?_cons_zero, List.getElem?_cons_succ, Nat.zero_add, Int.reduceNeg, z04, Bool.and_self, zh, hc, l7, i1, l1, hlk]
    | none => rw [hf] at hlk; simp only [S.z4f, zj, zg, zd, zb, List.getElem?_cons_zero, List.getElem?_cons_succ, Nat.zero_add, Int.reduceNeg, z04, Bool.and_self, zh, hc, l7, i1, l1, hlk]
  · have hcf : (decide (0 ≤ w) && decide (w < k.c)) = false := by
      rcases Classical.em (0 ≤ w) with h | h
      · rw [decide_eq_false (fun q => hw ⟨h, q⟩), Bool.and_false]
      · rw [decide_eq_false h, Bool.false_and]
    rw [hcf] at hc
    rw [if_neg hw]
    simp only [S.z4f, zj, zg, zd, zb, Nat.zero_add, Int.reduceNeg, z04, zh, hc]
def RSt.field (r : RSt) (n i : Int) : Int := if 0 ≤ n ∧ n < r.F.length ∧ 0 ≤ i ∧ i < (r.fl n).length then r.fat n i else -1
theorem z043 (M : MdAt k g.get B r) (n i : Int) : C 116 [.ptr B.b 0, .int .i64 n, .int .i64 i] g = some (.int .i64 (r.field n i), g) := by
  refine zi8 (af := F.z2f) (by kernel_rfl) rfl ?_
  rw [S.zu1]
  have l6 := M.l6
  have hlen := M.rows.len
  unfold RSt.field
  by_cases h0 : n < 0
  · have d0 : decide (n < 0) = true := decide_eq_true h0
    rw [if_neg (by omega)]
    simp only [S.z2f, z1t, zd, Int.reduceNeg, eqV, eqV, z1t, d0]
  have d0 : decide (n < 0) = false := decide_eq_false h0
  by_cases h1 : (r.F.length : Int) ≤ n
  · have d1 : decide ((r.F.length : Int) ≤ n) = true := decide_eq_true h1
    rw [if_neg (by omega)]
    simp only [S.z2f, zj, z1t, zg, zd, zb, Nat.zero_add, Int.reduceNeg, eqV, zj, eqV, z1t, d0, l6, hlen, d1]
  have d1 : decide ((r.F.length : Int) ≤ n) = false := decide_eq_false h1
  by_cases h2 : i < 0
  · have d2 : decide (i < 0) = true := decide_eq_true h2
    rw [if_neg (by omega)]
    simp only [S.z2f, zj, z1t, zg, zd, zb, Nat.zero_add, Int.reduceNeg, eqV, zj, eqV, z1t, d0, l6, hlen, d1, d2]
  have d2 : decide (i < 0) = false := decide_eq_false h2
  obtain ⟨q, rfl⟩ : ∃ q : Nat, n = (q : Int) := ⟨n.toNat, by omega⟩
  have hF : r.F[q]? = some (r.fl (q : Int)) := by
    unfold RSt.fl
    rw [Int.toNat_natCast, List.getElem?_eq_getElem (by omega)]; rfl
  obtain ⟨b, y, ix, ly, Y⟩ := M.rows.at hF
  have hyl := Y.len
  by_cases h3 : ((r.fl (q : Int)).length : Int) ≤ i
  · have d3 : decide (((r.fl (q : Int)).length : Int) ≤ i) = true := decide_eq_true h3
    rw [if_neg (by omega)]
    simp only [S.z2f, zj, z1t, zg, zd, zb, Nat.zero_add, Int.reduceNeg, eqV, zj, eqV, z1t, d0, l6, hlen, d1, d2, ix, ly, hyl, d3]
  · have d3 : decide (((r.fl (q : Int)).length : Int) ≤ i) = false := decide_eq_false h3
    obtain ⟨j, ej, hj⟩ := RSt.fatAt (r := r) (n := (q : Int)) (i := i) (by omega) (by omega)
    obtain ⟨b3, o3, i3, l3⟩ := Y.at hj
    rw [← ej] at i3
    rw [if_pos ⟨by omega, by omega, by omega, by omega⟩]
    simp only [S.z2f, zj, z1t, zg, zd, zb, Nat.zero_add, Int.reduceNeg, eqV, zj, eqV, z1t, d0, l6, hlen, d1, d2, ix, ly, hyl, d3, i3, l3]
theorem z05v (M : MdAt k g.get B r) (q : Int) : C 383 [.ptr B.b 0, .int .u64 q] g = some (.bool (r.fresh q), g) := by
  refine zi8 (af := F.z3w) (by kernel_rfl) rfl ?_
  rw [S.zu5]
  have l9 := M.l9
  have hlk : g.look .int (.int .i64 0) false (.map B.gm) (.int .u64 q) = some (.int .i64 (if r.Gv.contains q then 1 else 0)) := by
    simp only [H.look, zne, H.entries, M.gv, zki]
    cases r.Gv.contains q <;> rfl
  unfold RSt.fresh
  cases d0 : decide (q = 0) with
  | true => simp only [S.z3w, Bool.and_false, Bool.not_true, d0]
  | false =>
    cases hc : r.Gv.contains q with
    | true =>
      rw [hc] at hlk
      simp only [S.z3w, zj, zg, zd, zb, Nat.zero_add, Int.reduceEq, ze, Bool.and_true, Bool.not_true, Bool.not_false, decide_false, if_true, zj, d0, l9, hlk]
    | false =>
      rw [hc] at hlk
      simp only [S.z3w, zj, zg, zd, zb, Nat.zero_add, ze, Bool.not_false, Bool.and_self, decide_true, if_false, reduceCtorEq, zj, d0, l9, hlk]
end
theorem zz5 {prog : Nat → Option AFunc} {meth : Nat → Nat → Option Nat} {r n f : Nat} {af : AFunc} (hf : prog f = some af) (hc : af.closed = true) {args : List V} {v : V} (ha : V.flats args = true) (hr : run prog meth r n f args .empty = some (v, .empty)) (h : H) : callW prog meth f args h = some (v, h) := by
  cases n with
  | zero => simp [run] at hr
  | succ n =>
    refine zww (r := r) (n := n + 1) ?_
    simp only [run, hf] at hr ⊢
    unfold zb2 at hr ⊢
    simp only [hc, ha] at hr ⊢
    simp only [Option.bind_eq_some_iff] at hr ⊢
    obtain ⟨p, hp, hr⟩ := hr
    refine ⟨p, hp, ?_⟩
    split at hr
    · cases hr; rfl
    · cases hr
theorem zig (n : Int) (hr : runF prog meth 100 100 445 [.int .u64 1, .int .u64 n] .empty = some (.tup [.int .u64 0, .int .u64 n], .empty)) (h : H) : C 445 [.int .u64 1, .int .u64 n] h = some (.tup [.int .u64 0, .int .u64 n], h) :=
  zz5 (af := F.zkh) (by kernel_rfl) rfl rfl (by rw [← ztp]; exact hr) h
set_option maxRecDepth 100000 in
theorem z0a1 {n : Nat} (hn : n ≤ 8) (h : H) : C 445 [.int .u64 1, .int .u64 (n : Int)] h = some (.tup [.int .u64 0, .int .u64 (n : Int)], h) := by
  match n, hn with
  | 0, _ => exact zig 0 (by kernel_rfl) h
  | 1, _ => exact zig 1 (by kernel_rfl) h
  | 2, _ => exact zig 2 (by kernel_rfl) h
  | 3, _ => exact zig 3 (by kernel_rfl) h
  | 4, _ => exact zig 4 (by kernel_rfl) h
  | 5, _ => exact zig 5 (by kernel_rfl) h
  | 6, _ => exact zig 6 (by kernel_rfl) h
  | 7, _ => exact zig 7 (by kernel_rfl) h
  | 8, _ => exact zig 8 (by kernel_rfl) h
  | n + 9, h => omega
theorem z08v {m n c : Nat} (h : m ≤ n) (hc : c ≤ m) : ((z7i m n).map (V.int .i64)).take c = (List.replicate c (-1)).map (.int .i64) := by
  unfold z7i
  rw [List.map_append, List.take_append_of_le_length (by rw [List.length_map, List.length_replicate]; exact hc), ← List.map_take, List.take_replicate, Nat.min_eq_left hc]
theorem zx4 {m n c : Nat} (h : m + c ≤ n) : z0e ((z7i m n).map (V.int .i64)) m ((List.replicate c (-1)).map (.int .i64)) = (z7i (m + c) n).map (.int .i64) := by
  unfold z0e
  rw [List.length_map, List.length_replicate, ← List.map_take, ← List.map_drop, ← List.map_append, ← List.map_append]
  congr 1
  unfold z7i
  rw [List.take_append_of_le_length (by rw [List.length_replicate]; omega), List.take_of_length_le (by rw [List.length_replicate]; omega), List.drop_append, List.length_replicate, List.drop_of_length_le (by rw [List.length_replicate]; omega), List.nil_append, List.drop_replicate, List.append_assoc, ← List.append_assoc, List.replicate_append_replicate]
  congr 2
  omega
theorem z0be {h : H} {p m n c : Nat} (hb : h.get p = some (.cells ((z7i m n).map (.int .i64)) .rw)) (hmn : m ≤ n) (hc : c = min m (n - m)) (h0 : 0 < c) :
    h.copy 1 (.sl p m (n - m) (.ex (n - m))) (.sl p 0 m (.ex n)) = some (.int .i64 (c : Nat), h.put p (some (.cells ((z7i (m + c) n).map (.int .i64)) .rw))) := by
  have hbeq : Nat.beq c 0 = false := by
    cases hq : Nat.beq c 0 with
    | false => rfl
    | true => have := Nat.eq_of_beq_eq_true hq; omega
  have hl : h.ldc p 0 (c * 1) = some ((List.replicate c (-1)).map (.int .i64)) := by
    rw [zy5 hb (by rw [List.length_map, zxb hmn]; omega), List.drop_zero, Nat.mul_one, z08v hmn (by omega)]
  have hs : h.stc p m ((List.replicate c (-1)).map (.int .i64)) = some (h.put p (some (.cells ((z7i (m + c) n).map (.int .i64)) .rw))) := by
    rw [zxt hb (by simp) (z058 _ _) (by rw [List.length_map, List.length_replicate, List.length_map, zxb hmn]; omega), zx4 (by omega)]
  unfold H.copy
  simp only [z3a, ← hc, hbeq, hl, hs]
theorem z06c {h : H} (ok : h.ok) {p n : Nat} (hp : h.get p = some (.cells [.int .i64 (-1)] .rw)) (hn : n ≤ 8) :
    Ev (C 384 [.sl p 0 1 (.ex 1), .int .i64 (n : Int)] h) fun z => Fr [] h z.2 ∧ z.1 = .sl h.next 0 n (.ex n) ∧ z.2.get h.next = some (.cells ((List.replicate n (-1)).map (.int .i64)) .rw) := by
  refine z0i (af := F.z0v) (by kernel_rfl) rfl ?_
  rw [S.zpy]
  have d0 : decide ((n : Int) < 0) = false := decide_eq_false (by omega)
  have w1 : wr .u64 ((1 : Nat) : Int) = 1 := by rw [zzc (by omega) (by omega)]; rfl
  have w2 : wr .u64 (n : Int) = (n : Int) := zzc (by omega) (by omega)
  have w3 : wr .i64 (n : Int) = (n : Int) := wr64 (by omega) (by omega)
  have hmul := z0a1 hn h
  have d1 : decide ((0 : Int) < 0) = false := rfl
  have d2 : decide ((9223372036854775807 : Int) < (n : Int)) = false := decide_eq_false (by omega)
  have hmk := ztf (h := h) (e := 1) (b := 8) (z := [V.int .i64 0]) (l := (n : Int)) (c := (n : Int)) (Int.natCast_nonneg n) (Int.le_refl _) (by omega) (by omega) rfl (by decide)
  rw [Int.toNat_natCast, z096] at hmk
  have F1 : Fr [] h (h.new (.cells ((z7i 0 n).map (.int .i64)) .rw)) := (Fr.refl ok).new _
  have hb := zp h (.cells ((z7i 0 n).map (.int .i64)) .rw)
  have hp1 := F1.get ok hp (by simp)
  have hpn : p < h.next := ok.lt hp
  -- the first copy
  have hc1 : ∃ m, m ≤ n ∧ (n ≠ 0 → 1 ≤ m) ∧ ∃ g1, (h.new (.cells ((z7i 0 n).map (.int .i64)) .rw)).copy 1 (.sl h.next 0 n (.ex n)) (.sl p 0 1 (.ex 1)) = some (.int .i64 (m : Nat), g1) ∧ Fr [] h g1 ∧ g1.get h.next = some (.cells ((z7i m n).map (.int .i64)) .rw) := by
    by_cases h0 : n = 0
    · subst h0
      exact ⟨0, Nat.le_refl _, fun q => absurd rfl q, _, rfl, F1, hb⟩
    · refine ⟨1, by omega, fun _ => Nat.le_refl _, (h.new (.cells ((z7i 0 n).map (.int .i64)) .rw)).put h.next (some (.cells ((z7i 1 n).map (.int .i64)) .rw)), ?_, F1.put (.inr (Nat.le_refl _)) (Nat.lt_succ_self _) _, z0a _ _ _⟩
      have hm : min 1 n = 1 := by omega
      have hl : (h.new (.cells ((z7i 0 n).map (.int .i64)) .rw)).ldc p 0 (1 * 1) = some [.int .i64 (-1)] := by rw [zy5 hp1 (by simp)]; rfl
      have hs : (h.new (.cells ((z7i 0 n).map (.int .i64)) .rw)).stc h.next 0 [.int .i64 (-1)] = some ((h.new (.cells ((z7i 0 n).map (.int .i64)) .rw)).put h.next (some (.cells ((z7i 1 n).map (.int .i64)) .rw))) := by
        rw [zxt hb (by simp) rfl (by rw [List.length_map, zxb (Nat.zero_le n)]; simp; omega)]
        have := zx4 (m := 0) (n := n) (c := 1) (by omega)
        rw [Nat.zero_add] at this
        rw [← this]; rfl
      have hbz : Nat.beq 1 0 = false := rfl
      unfold H.copy
      simp only [z3a, hm, hbz, hl, hs]
  obtain ⟨m, hm, hm1, g1, e1, Fg1, hg1⟩ := hc1
  simp only [S.z0v, z3a, zd, List.getElem?_cons_zero, List.getElem?_cons_succ, Int.reduceLT, Int.reduceNeg, ze, z7v, decide_false, zh, d0, w1, w2, w3, hmul, d2, hmk, e1]
  refine z0j (α := Nat) (fun i => S.z6r (.sl h.next 0 n (.ex n)) (.int .i64 (i : Nat)))
    (fun i g => i ≤ n ∧ (n ≠ 0 → 1 ≤ i) ∧ Fr [] h g ∧ g.get h.next = some (.cells ((z7i i n).map (.int .i64)) .rw)) (fun i _ => n - i)
    (fun z => z.1 = .exit 0 ∧ z.2.1 = S.zaa (.sl h.next 0 n (.ex n)) ∧ Fr [] h z.2.2 ∧ z.2.2.get h.next = some (.cells ((z7i n n).map (.int .i64)) .rw)) m rfl ⟨hm, hm1, Fg1, hg1⟩ ?_ ?_
  rotate_left
  · rintro ⟨_, _, g⟩ ⟨rfl, rfl, F, hg⟩
    show Ev (S.zbo W (.exit 0) _ _) _
    rw [S.zkc]
    rw [z0a0] at hg
    exact Ev.some ⟨F, rfl, hg⟩
  rintro i g ⟨hi, hi1, F, hg⟩
  rw [S.znk]
  by_cases hin : i < n
  · have d : decide ((i : Int) < (n : Int)) = true := zxz hin
    have b1 : z1m 0 n (some (.int .i64 (i : Int))) = some i := by
      have q1 : decide ((0 : Int) ≤ (i : Int)) = true := decide_eq_true (by omega)
      have q2 : decide ((i : Int) ≤ ((n : Nat) : Int)) = true := decide_eq_true (by omega)
      show (match decide ((0 : Int) ≤ (i : Int)) && decide ((i : Int) ≤ ((n : Nat) : Int)) with | true => _ | false => _) = _
      rw [q1, q2]; simp
    have b2 : z1m n n (some (.int .i64 (i : Int))) = some i := b1
    have b3 : z1m n n none = some n := rfl
    have b4 : z1m 0 i none = some 0 := rfl
    have hz : Nat.beq n i = false := by
      cases hq : Nat.beq n i with
      | false => rfl
      | true => have := Nat.eq_of_beq_eq_true hq; omega
    have s1 : z67 1 (.sl h.next 0 n (.ex n)) (some (.int .i64 (i : Int))) none none = some (.sl h.next i (n - i) (.ex (n - i))) := by
      simp only [z67, b3, b1, hz, Nat.mul_one, Nat.zero_add]
    have s2 : z67 1 (.sl h.next 0 n (.ex n)) none (some (.int .i64 (i : Int))) none = some (.sl h.next 0 i (.ex n)) := by
      simp only [z67, b3, b2, b4, Nat.sub_zero]
      cases Nat.beq n 0 <;> rfl
    have h1i := hi1 (by omega)
    have hcp := z0be hg hi rfl (by omega)
    have wi : wr .i64 ((i : Int) + ((min i (n - i) : Nat) : Int)) = ((i + min i (n - i) : Nat) : Int) := by rw [wr64 (by omega) (by omega)]; rfl
    simp only [S.za9, z3a, zd, ze, d, s1, s2, hcp, wi]
    exact Ev.some (.inl ⟨i + min i (n - i), rfl, rfl, ⟨by omega, fun _ => by omega, F.put (.inr (Nat.le_refl _)) (F.ok.lt hg) _, z0a _ _ _⟩, by omega⟩)
  · have hie : i = n := by omega
    subst hie
    have d : decide ((i : Int) < (i : Int)) = false := decide_eq_false (Int.lt_irrefl _)
    simp only [S.za9, z3a, zd, d]
    exact Ev.some (.inr ⟨by simp, rfl, rfl, F, hg⟩)
theorem z07r {g : H} {x : V} {l : List Int} (R : RowO .i64 g.get x l) (hl : l.length ≤ 100000) (v : Int) : Ev (C 404 [x, .int .i64 v] g) fun z => z.2 = g ∧ ∃ n : Int, z.1 = .int .i64 n ∧ (0 ≤ n ↔ l.contains v = true) := by
  refine z0i (af := F.z10) (by kernel_rfl) rfl ?_
  rw [S.zq9]
  have hlen := R.len
  simp only [S.z10, zd, hlen]
  refine z0j (α := Nat) (fun i => S.z7a x (.int .i64 v) (.int .i64 (l.length : Nat)) (.int .i64 (i : Nat)))
    (fun i g' => i ≤ l.length ∧ g' = g ∧ (l.drop i).contains v = l.contains v) (fun i _ => l.length - i)
    (fun z => z.2.2 = g ∧ ((z.1 = .exit 0 ∧ z.2.1 = S.z38 .dead ∧ l.contains v = false) ∨ (∃ i : Nat, z.1 = .ret ∧ z.2.1 = S.z38 (.int .i64 (i : Nat)) ∧ l.contains v = true))) 0 rfl ⟨Nat.zero_le _, rfl, rfl⟩ ?_ ?_
  rotate_left
  · rintro ⟨_, _, g'⟩ ⟨rfl, ⟨rfl, rfl, hn⟩ | ⟨i, rfl, rfl, hn⟩⟩
    · show Ev (S.z5v W (.exit 0) _ _) _
      rw [S.zkp]
      exact Ev.some ⟨rfl, -1, rfl, by rw [hn]; simp⟩
    · show Ev (S.z5v W .ret _ _) _
      rw [S.zlh]
      exact Ev.some ⟨rfl, (i : Nat), rfl, by rw [hn]; simp⟩
  rintro i g' ⟨hi, rfl, hn⟩
  rw [S.zo6]
  by_cases hil : i < l.length
  rotate_left
  · have d : decide ((i : Int) < (l.length : Int)) = false := decide_eq_false (by omega)
    simp only [S.z7c, d]
    rw [List.drop_of_length_le (by omega)] at hn
    exact Ev.some (.inr ⟨by simp, rfl, .inl ⟨rfl, rfl, hn.symm⟩⟩)
  have d : decide ((i : Int) < (l.length : Int)) = true := zxz hil
  obtain ⟨u, hu⟩ : ∃ u, l[i]? = some u := ⟨_, List.getElem?_eq_getElem hil⟩
  obtain ⟨b, o, ix, lv⟩ := R.at hu
  have hdrop : l.drop i = u :: l.drop (i + 1) := by
    rw [List.drop_eq_getElem_cons hil]
    rw [List.getElem?_eq_getElem hil] at hu
    rw [Option.some.inj hu]
  rw [hdrop, List.contains_cons] at hn
  have wi := z03r (i := i) (by omega)
  by_cases he : v = u
  · have de : decide (v = u) = true := decide_eq_true he
    simp only [S.z7c, zd, zb, ze, d, ix, lv, de]
    refine Ev.some (.inr ⟨by simp, rfl, .inr ⟨i, rfl, rfl, ?_⟩⟩)
    rw [← hn, he]; simp
  · have de : decide (v = u) = false := decide_eq_false he
    have hb : (v == u) = false := by simp [he]
    rw [hb, Bool.false_or] at hn
    simp only [S.z7c, zd, zb, ze, d, ix, lv, de, wi]
    exact Ev.some (.inl ⟨i + 1, rfl, rfl, ⟨hil, rfl, hn⟩, Nat.sub_lt_sub_left hil (Nat.lt_succ_self i)⟩)
theorem zq4 {g : H} {x : V} {l : List Int} (R : RowO .i64 g.get x l) (hl : l.length ≤ 100000) (v : Int) : C 331 [x, .int .i64 v] g = some (.bool (l.contains v), g) := by
  obtain ⟨⟨_, g'⟩, e1, rfl, n, rfl, hn⟩ := z07r R hl v
  refine zi8 (af := F.z1s) (by kernel_rfl) rfl ?_
  rw [S.znt]
  have hb : decide (0 ≤ n) = l.contains v := by
    cases hc : l.contains v with
    | true => exact decide_eq_true (hn.mpr hc)
    | false => exact decide_eq_false fun q => by have := hn.mp q; rw [hc] at this; cases this
  simp only [S.z1s, zd, ze, zh, e1, hb]
structure RcmAt (h1 g : H) (r : RSt) (x : V) (l : List Int) : Prop where
  fr : Fr [] h1 g
  q : LQ g.get x l
  xn : ∀ b ∈ x.blk, h1.next ≤ b
  sn : ∃ X, Seen r.F.length l X
section
variable {k : Cfg} {B : MdB} {r : RSt}
theorem z01q {h1 : H} (ok1 : h1.ok) (hB : r.F.length ≤ 100000) {x : V} {l : List Int} {g : H} (Z : RcmAt h1 g r x l) {y : V} {f : List Int} (Y : RowO .i64 h1.get y f) (hf : ∀ v ∈ f, -1 ≤ v ∧ v < r.F.length) (hfl : f.length ≤ 100000) (x0 : V) (kx : Nat) (hkx : kx ≤ 100000) :
    Ev ((W.loop (S.zcw W) (S.z3i x0 x (.int .i64 (kx : Nat)) y (.int .i64 (f.length : Nat)) (.int .i64 0)) g).bind fun p7 => S.zb3 W p7.1 p7.2.1 p7.2.2) fun z =>
      z.1 = .normal ∧ ∃ x', z.2.1 = S.z6z x0 x' (.int .i64 (kx + 1 : Nat)) ∧ RcmAt h1 z.2.2 r x' (r.nexts l f) := by
  refine z0j (α := Nat × V × List Int) (fun a => S.z3i x0 a.2.1 (.int .i64 (kx : Nat)) y (.int .i64 (f.length : Nat)) (.int .i64 (a.1 : Nat)))
    (fun a g => a.1 ≤ f.length ∧ RcmAt h1 g r a.2.1 a.2.2 ∧ r.nexts a.2.2 (f.drop a.1) = r.nexts l f) (fun a _ => f.length - a.1)
    (fun z => z.1 = .exit 2 ∧ ∃ x', z.2.1 = S.zdf x0 x' (.int .i64 (kx : Nat)) ∧ RcmAt h1 z.2.2 r x' (r.nexts l f)) (0, x, l) rfl ⟨Nat.zero_le _, Z, rfl⟩ ?_ ?_
  rotate_left
  · rintro ⟨_, _, g'⟩ ⟨rfl, x', rfl, Z'⟩
    show Ev (S.zb3 W (.exit 2) _ _) _
    rw [S.zp2]
    have wk := z03r (i := kx) hkx
    simp only [S.zh6, wk]
    exact Ev.some ⟨rfl, x', rfl, Z'⟩
  rintro ⟨i, x, l2⟩ g ⟨hi, Z, hn⟩
  dsimp only at hi Z hn ⊢
  rw [S.zqr]
  by_cases hif : i < f.length
  rotate_left
  · have d : decide ((i : Int) < (f.length : Int)) = false := decide_eq_false (by omega)
    simp only [S.z74, d]
    rw [List.drop_of_length_le (by omega)] at hn
    have hn' : l2 = r.nexts l f := hn
    exact Ev.some (.inr ⟨by simp, rfl, x, rfl, hn' ▸ Z⟩)
  have d : decide ((i : Int) < (f.length : Int)) = true := zxz hif
  obtain ⟨v, hv⟩ : ∃ v, f[i]? = some v := ⟨_, List.getElem?_eq_getElem hif⟩
  obtain ⟨b, o, ix, lv⟩ := (Y.sub ((Sub.refl _).fr0 ok1 Z.fr)).at hv
  have hdrop : f.drop i = v :: f.drop (i + 1) := by
    rw [List.drop_eq_getElem_cons hif]
    rw [List.getElem?_eq_getElem hif] at hv
    rw [Option.some.inj hv]
  rw [hdrop, zue] at hn
  have wi := z03r (i := i) (by omega)
  obtain ⟨v0, v1⟩ := hf v (List.mem_of_getElem? hv)
  obtain ⟨X, S0⟩ := Z.sn
  have hll := S0.len_le
  cases d0 : decide (0 ≤ v) with
  | false =>
    have hs : r.next l2 v = l2 := by unfold RSt.next; rw [d0]; rfl
    rw [hs] at hn
    simp only [S.z74, zd, zb, ze, d, ix, lv, d0, wi]
    exact Ev.some (.inl ⟨(i + 1, x, l2), rfl, rfl, ⟨hif, Z, hn⟩, Nat.sub_lt_sub_left hif (Nat.lt_succ_self i)⟩)
  | true =>
    have hc := zq4 Z.q.row (by omega) v
    cases hcc : l2.contains v with
    | true =>
      rw [hcc] at hc
      have hs : r.next l2 v = l2 := by unfold RSt.next; rw [hcc]; simp
      rw [hs] at hn
      simp only [S.z74, zd, zb, Nat.zero_add, Nat.reduceLeDiff, ze, z04, List.length_cons, List.length_nil, Nat.beq_refl, Bool.not_true, Bool.and_self, decide_true, z0e, List.take_zero, List.drop_succ_cons, List.drop_zero, List.cons_append, List.nil_append, fill, repl, opd, zc5, zh, d, ix, lv, d0, hc, wi]
      exact Ev.some (.inl ⟨(i + 1, x, l2), rfl, rfl, ⟨hif, Z, hn⟩, Nat.sub_lt_sub_left hif (Nat.lt_succ_self i)⟩)
    | false =>
      rw [hcc] at hc
      have hs : r.next l2 v = l2 ++ [v] := by unfold RSt.next; rw [hcc, d0]; rfl
      have S1 := S0.next (r := r) v1
      rw [hs] at hn S1
      obtain ⟨x', g', ea, F2, Q2, hx'⟩ := Z.q.push Z.fr.ok (by omega) v
      simp only [S.z74, zd, zb, Nat.zero_add, Nat.reduceLeDiff, ze, z04, List.length_cons, List.length_nil, Nat.beq_refl, Bool.not_false, Bool.and_self, decide_true, z0e, List.take_zero, List.drop_succ_cons, List.drop_zero, List.cons_append, List.nil_append, fill, repl, opd, zc5, zh, d, ix, lv, d0, hc, ea, wi]
      exact Ev.some (.inl ⟨(i + 1, x', l2 ++ [v]), rfl, rfl, ⟨hif, ⟨Z.fr.trans F2 (fun b hb => .inr (Z.xn b hb)), Q2, fun b hb => Nat.le_trans Z.fr.le (hx' b hb), S1⟩, hn⟩, Nat.sub_lt_sub_left hif (Nat.lt_succ_self i)⟩)
theorem z01o {h : H} (ok : h.ok) (M : MdAt k h.get B r) (I : RIn k r) (hB : r.F.length ≤ 100000) (hA : ∀ l ∈ r.F, l.length ≤ 100000) {n : Nat} (hn : n < r.F.length) :
    Ev (C 386 [.ptr B.b 0, .int .i64 (n : Int)] h) fun z => Fr [] h z.2 ∧ RowO .i64 z.2.get z.1 (r.reached (n : Int)) ∧ (∀ b ∈ z.1.blk, h.next ≤ b) := by
  refine z0i (af := F.z16) (by kernel_rfl) rfl ?_
  rw [S.zsy]
  simp only [S.z16]
  have F0 : Fr [] h (h.new (.cells [.int .i64 (n : Int)] .rw)) := (Fr.refl ok).new _
  have Q0 : LQ (h.new (.cells [.int .i64 (n : Int)] .rw)).get (.sl h.next 0 1 (.ex 1)) [(n : Int)] := ⟨h.next, .ex 1, .rw, rfl, zp _ _, .inl rfl⟩
  have R0 : RcmAt h (h.new (.cells [.int .i64 (n : Int)] .rw)) r (.sl h.next 0 1 (.ex 1)) [(n : Int)] := ⟨F0, Q0, by simp [V.blk], _, Seen.one hn⟩
  refine z0j (α := Nat × V × List Int) (fun a => S.z6z (.ptr B.b 0) a.2.1 (.int .i64 (a.1 : Nat)))
    (fun a g => a.1 ≤ a.2.2.length ∧ RcmAt h g r a.2.1 a.2.2 ∧ r.reach (r.F.length + 1 - a.1) a.1 a.2.2 = r.reached (n : Int)) (fun a _ => r.F.length + 1 - a.1)
    (fun z => z.1 = .exit 0 ∧ ∃ x', z.2.1 = S.zdj x' ∧ Fr [] h z.2.2 ∧ LQ z.2.2.get x' (r.reached (n : Int)) ∧ ∀ b ∈ x'.blk, h.next ≤ b) (0, .sl h.next 0 1 (.ex 1), [(n : Int)]) rfl ⟨Nat.zero_le _, R0, rfl⟩ ?_ ?_
  rotate_left
  · rintro ⟨_, _, g'⟩ ⟨rfl, x', rfl, F', Q', hx'⟩
    show Ev (S.zem W (.exit 0) _ _) _
    rw [S.zpd]
    exact Ev.some ⟨F', Q'.row, hx'⟩
  rintro ⟨i, x, l⟩ g ⟨hi, R, hrc⟩
  dsimp only at hi R hrc ⊢
  rw [S.zqs]
  have hxl := R.q.row.len
  obtain ⟨X, S0⟩ := R.sn
  have hll := S0.len_le
  by_cases hil : i < l.length
  rotate_left
  · have d : decide ((i : Int) < (l.length : Int)) = false := decide_eq_false (by omega)
    rw [z0ac _ _ _ _ (by omega)] at hrc
    simp only [S.zcz, zd, hxl, d]
    exact Ev.some (.inr ⟨by simp, rfl, x, rfl, R.fr, hrc ▸ R.q, R.xn⟩)
  have d : decide ((i : Int) < (l.length : Int)) = true := zxz hil
  obtain ⟨v, hv⟩ : ∃ v, l[i]? = some v := ⟨_, List.getElem?_eq_getElem hil⟩
  obtain ⟨b, o, ix, lv⟩ := R.q.row.at hv
  obtain ⟨v0, v1⟩ := S0.all v (List.mem_of_getElem? hv)
  obtain ⟨q, rfl⟩ : ∃ q : Nat, v = (q : Int) := ⟨v.toNat, by omega⟩
  have hF : r.F[q]? = some (r.fl (q : Int)) := by
    unfold RSt.fl
    rw [Int.toNat_natCast, List.getElem?_eq_getElem (by omega)]; rfl
  have Mg := M.fr0 ok R.fr
  have hl6 := Mg.l6
  obtain ⟨b2, y, i3, ly, Y0⟩ := M.rows.at hF
  have ly' := ((Sub.refl _).fr0 ok R.fr).ldB ly
  have hyl := Y0.len
  simp only [S.zcz, zj, zg, zd, zb, Nat.zero_add, zj, hxl, d, ix, lv, hl6, i3, ly', hyl]
  refine (z01q ok hB R Y0 (I.fl_lt _) (hA _ (List.mem_of_getElem? hF)) _ i (by omega)).mono ?_
  rintro ⟨_, _, g'⟩ ⟨rfl, x', rfl, R'⟩
  refine .inl ⟨(i + 1, x', r.nexts l (r.fl (q : Int))), rfl, rfl, ⟨?_, R', ?_⟩, by dsimp only; omega⟩
  · have hmono : ∀ (xs l : List Int), l.length ≤ (r.nexts l xs).length := by
      intro xs
      induction xs with
      | nil => intro l; exact Nat.le_refl _
      | cons x xs ih =>
        intro l
        rw [zue]
        refine Nat.le_trans ?_ (ih _)
        unfold RSt.next
        split
        · rw [List.length_append]; omega
        · exact Nat.le_refl _
    have := hmono (r.fl (q : Int)) l
    dsimp only; omega
  · rw [show r.F.length + 1 - i = (r.F.length + 1 - (i + 1)) + 1 from by omega, z084 _ _ _ _ hv] at hrc
    exact hrc
theorem MdAt.dist {g : Nat → Option Blk} (M : MdAt k g B r) : (B.b ∉ B.bh :: B.bw :: B.gm :: (B.ms ++ (B.xF.blk ++ B.bs))) ∧ (B.bh ∉ B.bw :: B.gm :: (B.ms ++ (B.xF.blk ++ B.bs))) ∧ (B.bw ∉ B.gm :: (B.ms ++ (B.xF.blk ++ B.bs))) ∧ (B.gm ∉ (B.ms ++ (B.xF.blk ++ B.bs))) ∧ B.ms.Nodup ∧ (B.xF.blk ++ B.bs).Nodup ∧ (∀ a ∈ B.ms, a ∉ B.xF.blk ++ B.bs) ∧ B.bs.Nodup ∧ (∀ a ∈ B.xF.blk, a ∉ B.bs) := by
  have nd := M.nd
  unfold MdB.l at nd
  rw [List.nodup_cons, List.nodup_cons, List.nodup_cons, List.nodup_cons, List.nodup_append] at nd
  obtain ⟨h1, h2, h3, h4, h5, h6, h7⟩ := nd
  have h6' := h6
  rw [List.nodup_append] at h6'
  exact ⟨h1, h2, h3, h4, h5, h6, fun a ha hb => h7 a ha a hb rfl, h6'.2.1, fun a ha hb => h6'.2.2 a ha a hb rfl⟩
theorem zt9 {g : H} (ok : g.ok) (M : MdAt k g.get B r) (I : RIn k r) {w q n : Int} (w0 : 0 ≤ w) (w1 : w < k.c) (hq : r.Gv.contains q = false) :
    ∃ g', C 385 [.ptr B.b 0, .int .i64 w, .int .u64 q, .int .i64 n] g = some (.tup [], g') ∧ Fr B.l g g' ∧ MdAt k g'.get B (r.gives w q n) ∧ g'.next = g.next := by
  obtain ⟨i, m, rfl, hm, i1, l1, e1⟩ := M.map w0 w1
  obtain ⟨d1, d2, d3, d4, d5, d6, d7, d8, d9⟩ := M.dist
  have hmm : m ∈ B.ms := List.mem_of_getElem? hm
  have l9 := M.l9
  have l7 := M.l7
  have hgm : B.gm ≠ m := fun e => d4 (List.mem_append_left _ (e ▸ hmm))
  have hs1 : g.mapSet .int (.map B.gm) (.int .u64 q) (.int .i64 1) = some (g.put B.gm (some (.map (z5f (r.Gv ++ [q]))))) := by
    simp only [H.mapSet, zne, M.gv]
    rw [zqm (k := .int .u64 q) (.int .i64 1) (by rw [zki, hq]; rfl)]
    unfold z5f
    rw [List.map_append]; rfl
  have e1' : (g.put B.gm (some (.map (z5f (r.Gv ++ [q]))))).get m = some (.map (z2b r.Hs i)) := by rw [z1e hgm.symm]; exact e1
  have hnone : (r.Hs.find? fun x => x.is (i : Int) q) = none := by
    rw [List.find?_eq_none]
    intro x hx hxi
    unfold HoldR.is at hxi
    simp only [Bool.and_eq_true, decide_eq_true_eq] at hxi
    have := (I.hs x hx).2.2.1
    rw [hxi.2] at this
    rw [List.contains_eq_mem] at hq
    simp [this] at hq
  have hs2 : (g.put B.gm (some (.map (z5f (r.Gv ++ [q]))))).mapSet .int (.map m) (.int .u64 q) (.int .i64 n) = some ((g.put B.gm (some (.map (z5f (r.Gv ++ [q]))))).put m (some (.map (z2b (r.Hs ++ [⟨(i : Int), q, n⟩]) i)))) := by
    simp only [H.mapSet, zne, e1']
    rw [zqm (k := .int .u64 q) (.int .i64 n) (by rw [zq5, hnone]; rfl)]
    have : z2b (r.Hs ++ [⟨(i : Int), q, n⟩]) i = z2b r.Hs i ++ [(.int .u64 q, .int .i64 n)] := by
      unfold z2b
      rw [List.filter_append, List.map_append]
      simp
    rw [this]
  have nbg : B.b ≠ B.gm := fun e => d1 (by rw [e]; simp)
  have nhg : B.bh ≠ B.gm := fun e => d2 (by rw [e]; simp)
  have l72 : ldB ((g.put B.gm (some (.map (z5f (r.Gv ++ [q]))))).get B.b) 7 = some (.sl B.bh 0 k.C (.op 1)) := by rw [z1e nbg]; exact l7
  have l12 : ldB ((g.put B.gm (some (.map (z5f (r.Gv ++ [q]))))).get B.bh) i = some (.map m) := by rw [z1e nhg]; exact l1
  refine ⟨(g.put B.gm (some (.map (z5f (r.Gv ++ [q]))))).put m (some (.map (z2b (r.Hs ++ [⟨(i : Int), q, n⟩]) i))), ?_, ?_, ?_, rfl⟩
  · refine zi8 (af := F.z6u) (by kernel_rfl) rfl ?_
    rw [S.zv7]
    simp only [S.z6u, zj, zd, zg, zb, Nat.zero_add, l9, hs1, l72, i1, l12, hs2]
  · exact ((Fr.refl ok).put (.inl (by simp [MdB.l])) (ok.lt M.gv) _).put (.inl (by simp [MdB.l, hmm])) (ok.lt e1) _
  · have same : ∀ b, b ≠ B.gm → b ≠ m → ((g.put B.gm (some (.map (z5f (r.Gv ++ [q]))))).put m (some (.map (z2b (r.Hs ++ [⟨(i : Int), q, n⟩]) i)))).get b = g.get b := fun b h1 h2 => by rw [z1e h2, z1e h1]
    have nbm : B.b ≠ m := fun e => d1 (by rw [e]; simp [hmm])
    have nhm : B.bh ≠ m := fun e => d2 (by rw [e]; simp [hmm])
    have nwm : B.bw ≠ m := fun e => d3 (by rw [e]; simp [hmm])
    have nwg : B.bw ≠ B.gm := fun e => d3 (by rw [e]; simp)
    refine ⟨M.nd, M.nn, by rw [same _ nbg nbm]; exact M.own, M.fo.congr fun b hb => same b (fun e => d4 (by rw [← e]; simp [hb])) (fun e => d7 m hmm (by rw [← e]; simp [hb])), M.fl, fun j v b l h1 h2 h3 => ?_, by rw [same _ nhg nhm]; exact M.ho, M.hl, fun j m' hm' => ?_, by rw [same _ nwg nwm]; exact M.wo, M.wl, fun j v l h1 h2 => ?_, ?_⟩
    · obtain ⟨c, kk, e, hb, rr⟩ := M.fr j v b l h1 h2 h3
      have hbm := List.mem_of_getElem? h2
      exact ⟨c, kk, e, by rw [same b (fun e => d4 (by rw [← e]; simp [hbm])) (fun e => d7 m hmm (by rw [← e]; simp [hbm]))]; exact hb, rr⟩
    · by_cases hji : j = i
      · subst hji
        rw [hm] at hm'
        cases hm'
        exact z0a _ _ _
      · have hmm' : m' ∈ B.ms := List.mem_of_getElem? hm'
        have hne : m' ≠ m := by
          intro e
          subst e
          have h1 := z01 hm
          have h2 := z01 hm'
          rw [List.getElem?_eq_getElem h1] at hm
          rw [List.getElem?_eq_getElem h2] at hm'
          have := (List.getElem_inj (xs := B.ms) d5 (i := j) (j := i) (h₀ := h2) (h₁ := h1)).mp (by rw [Option.some.inj hm, Option.some.inj hm'])
          exact hji this
        rw [same m' (fun e => d4 (by rw [← e]; simp [hmm'])) hne, M.hm j m' hm']
        show some (Blk.map (z2b r.Hs j)) = some (.map (z2b (r.Hs ++ [⟨(i : Int), q, n⟩]) j))
        have : z2b (r.Hs ++ [⟨(i : Int), q, n⟩]) j = z2b r.Hs j := by
          unfold z2b
          rw [List.filter_append]
          have : [(⟨(i : Int), q, n⟩ : HoldR)].filter (fun x => decide (x.c = (j : Int))) = [] := by
            rw [List.filter_cons, if_neg (by simp; omega)]; rfl
          rw [this, List.append_nil]
        rw [this]
    · have R := M.wr j v l h1 h2
      refine R.congr fun b hb => ?_
      have hbn : b ∈ B.nb := by
        unfold MdB.nb
        exact List.mem_flatten.mpr ⟨v.blk, List.mem_map.mpr ⟨v, List.mem_of_getElem? h1, rfl⟩, hb⟩
      have := M.nn b hbn
      exact same b (fun e => this (by rw [e]; simp [MdB.l])) (fun e => this (by rw [e]; simp [MdB.l, hmm]))
    · rw [z1e hgm, z0a]; rfl
end
theorem z06f (n : Int) (h : H) : C 82 [.int .i64 n] h = some (.bool (decide (n = 9) || decide (n = 10)), h) := by
  refine zb6 (af := F.zl8) (by kernel_rfl) rfl (by rfl) (by rfl) h ?_
  rw [S.z07i]
  cases d9 : decide (n = 9) <;> cases d10 : decide (n = 10) <;> simp only [S.zl8, Bool.or_false, Bool.false_or, Bool.or_self, d9, d10] <;> exact Ev.some rfl
theorem zuy (n : Int) (h : H) : C 83 [.int .i64 n] h = some (.bool (decide (3 ≤ n) && decide (n ≤ 5)), h) := by
  refine zb6 (af := F.zg2) (by kernel_rfl) rfl (by rfl) (by rfl) h ?_
  rw [S.z05k]
  cases d9 : decide (3 ≤ n) <;> cases d10 : decide (n ≤ 5) <;> simp only [S.zg2, Bool.and_true, Bool.and_false, Bool.and_self, d9, d10] <;> exact Ev.some rfl
structure AskAt (k : Cfg) (B : MdB) (r : RSt) (c : CallR) (g : H) (q : Nat) : Prop where
  ok : g.ok
  M : MdAt k g.get B r
  cl : g.get q = some (.cells [.int .i64 c.kind, .int .i64 c.n, .int .u64 c.h, .int .u64 c.x, .int .u64 c.y] .rw)
theorem AskAt.fr {k : Cfg} {B : MdB} {r : RSt} {c : CallR} {g g' : H} {q : Nat} (A : AskAt k B r c g q) (F : Fr [] g g') : AskAt k B r c g' q := ⟨F.ok, A.M.fr0 A.ok F, F.get A.ok A.cl (by simp)⟩
theorem AskAt.new {k : Cfg} {B : MdB} {r : RSt} {h : H} (ok : h.ok) (M : MdAt k h.get B r) (c : CallR) : AskAt k B r c (h.new (.cells [.int .i64 c.kind, .int .i64 c.n, .int .u64 c.h, .int .u64 c.x, .int .u64 c.y] .rw)) h.next :=
  ⟨ok.new _, M.fr0 ok ((Fr.refl ok).new _), zp _ _⟩
section
variable {k : Cfg} {B : MdB} {r : RSt} {c : CallR}
theorem z05t {h : H} (ok : h.ok) (M : MdAt k h.get B r) {w : Int} (w0 : 0 ≤ w) (w1 : w < k.c) :
    Ev (C 280 [.ptr B.b 0, .int .i64 w, .agg c.cs] h) fun z => z.1 = .int .i64 (if c.n < 0 ∨ k.a < c.n then 1 else if (r.held w : Int) < k.hd then 0 else 5) ∧ Fr [] h z.2 := by
  refine z0i (af := F.z2e) (by kernel_rfl) rfl ?_
  have hcs : V.agg c.cs = .agg [.int .i64 c.kind, .int .i64 c.n, .int .u64 c.h, .int .u64 c.x, .int .u64 c.y] := rfl
  rw [hcs, S.zul]
  simp only [S.z2e]
  have A := AskAt.new ok M c
  have F0 : Fr [] h (h.new (.cells [.int .i64 c.kind, .int .i64 c.n, .int .u64 c.h, .int .u64 c.x, .int .u64 c.y] .rw)) := (Fr.refl ok).new _
  generalize (h.new (.cells [.int .i64 c.kind, .int .i64 c.n, .int .u64 c.h, .int .u64 c.x, .int .u64 c.y] .rw)) = g at A F0 ⊢
  generalize h.next = q at A ⊢
  have hcl := A.cl
  have l1 := A.M.l1
  have l3 := A.M.l3
  have hh := zsx A.M w
  rw [if_pos ⟨w0, w1⟩] at hh
  by_cases n0 : c.n < 0
  · have dn : decide (c.n < 0) = true := decide_eq_true n0
    simp only [S.zad, S.z7m, S.z8u, S.z83, zj, zg, zd, zb, zf, List.getElem?_cons_zero, List.getElem?_cons_succ, Nat.zero_add, Nat.add_zero, zm, ze, hcl, dn]
    exact Ev.some ⟨by rw [if_pos (.inl n0)], F0⟩
  have dn : decide (c.n < 0) = false := decide_eq_false n0
  by_cases na : k.a < c.n
  · have da : decide (k.a < c.n) = true := decide_eq_true na
    simp only [S.zad, S.z7m, S.z8u, S.z83, zj, zg, zd, zb, zf, List.getElem?_cons_zero, List.getElem?_cons_succ, Nat.zero_add, Nat.add_zero, zm, ze, zj, hcl, l1, dn, da]
    exact Ev.some ⟨by rw [if_pos (.inr na)], F0⟩
  have da : decide (k.a < c.n) = false := decide_eq_false na
  rw [if_neg (fun q => q.elim n0 na)]
  by_cases rm : (r.held w : Int) < k.hd
  · have dr : decide (k.hd ≤ (r.held w : Int)) = false := decide_eq_false (by omega)
    simp only [S.zad, S.z7m, S.z8u, S.z83, zj, zg, zd, zb, zf, List.getElem?_cons_zero, List.getElem?_cons_succ, Nat.zero_add, Nat.add_zero, zm, V.beq, z3c, ze, Bool.and_self, decide_true, zh, zj, hcl, l1, l3, hh, dn, da, dr]
    exact Ev.some ⟨by rw [if_pos rm], F0⟩
  · have dr : decide (k.hd ≤ (r.held w : Int)) = true := decide_eq_true (by omega)
    simp only [S.zad, S.z7m, S.z8u, S.z83, zj, zg, zd, zb, zf, List.getElem?_cons_zero, List.getElem?_cons_succ, Nat.zero_add, Nat.add_zero, zm, V.beq, z3c, ze, Bool.and_self, decide_true, zh, zj, hcl, l1, l3, hh, dn, da, dr]
    exact Ev.some ⟨by rw [if_neg rm], F0⟩
theorem z06i {h : H} (ok : h.ok) (M : MdAt k h.get B r) {w : Int} (w0 : 0 ≤ w) (w1 : w < k.c) (hk : c.kind = 9 ∨ c.kind = 10) :
    Ev (C 281 [.ptr B.b 0, .int .i64 w, .agg c.cs] h) fun z => z.1 = .int .i64 (err6 k r w c) ∧ Fr [] h z.2 := by
  refine z0i (af := F.z2s) (by kernel_rfl) rfl ?_
  have hcs : V.agg c.cs = .agg [.int .i64 c.kind, .int .i64 c.n, .int .u64 c.h, .int .u64 c.x, .int .u64 c.y] := rfl
  rw [hcs, S.zvk]
  simp only [S.z2s]
  have A := AskAt.new ok M c
  have F0 : Fr [] h (h.new (.cells [.int .i64 c.kind, .int .i64 c.n, .int .u64 c.h, .int .u64 c.x, .int .u64 c.y] .rw)) := (Fr.refl ok).new _
  generalize (h.new (.cells [.int .i64 c.kind, .int .i64 c.n, .int .u64 c.h, .int .u64 c.x, .int .u64 c.y] .rw)) = g at A F0 ⊢
  generalize h.next = q at A ⊢
  obtain ⟨i, v, hwi, hv, hW, hCm, iw, lw, lv, R⟩ := A.M.walk w0 w1
  have l8 := A.M.l8
  -- the walk, as one
  have hns := A.M.wo
  obtain ⟨e1, e2⟩ := zs4 hW hv
  have hlenw : (z21 r.Wk B.ns).length = k.C * 2 := by
    have := A.M.wl
    rw [zmg (by omega), this.1]
  have hi : i < k.C := by have := z01 hW; have := A.M.wl.1; omega
  have ov := R.slv.one
  have hld2 : ldNB (g.get B.bw) (i * 2) 2 = some (.agg [.int .u64 (r.walk w), v]) := by
    rw [hns, z0s, decide_eq_true (by rw [hlenw]; omega)]
    have : ((z21 r.Wk B.ns).drop (i * 2)).take 2 = [.int .u64 (r.walk w), v] := by
      apply List.ext_getElem?
      intro j
      rw [List.getElem?_take]
      by_cases hj : j < 2
      · rw [if_pos hj, List.getElem?_drop]
        match j, hj with
        | 0, _ => exact e1
        | 1, _ => exact e2
      · rw [if_neg hj, List.getElem?_eq_none (by simp; omega)]
    rw [this]
  have F1 : Fr [] g (g.new (.cells [.int .u64 0, .nilsl] .rw)) := (Fr.refl A.ok).new _
  have hp0 := zp g (.cells [.int .u64 0, .nilsl] .rw)
  have hst : (g.new (.cells [.int .u64 0, .nilsl] .rw)).st 2 (.ptr g.next 0) (.agg [.int .u64 (r.walk w), v]) = some ((g.new (.cells [.int .u64 0, .nilsl] .rw)).put g.next (some (.cells [.int .u64 (r.walk w), v] .rw))) := by
    rw [z2u, hp0]
    show Option.map _ (stB (some (.cells [.int .u64 0, .nilsl] .rw)) 0 [.int .u64 (r.walk w), v]) = _
    rw [z0d0 (cs := [.int .u64 0, .nilsl]) (l := [.int .u64 (r.walk w), v]) rfl (by simp only [List.all_cons, List.all_nil, ov]; rfl)]; rfl
  have F2 : Fr [] g ((g.new (.cells [.int .u64 0, .nilsl] .rw)).put g.next (some (.cells [.int .u64 (r.walk w), v] .rw))) := F1.put (.inr (Nat.le_refl _)) (Nat.lt_succ_self _) _
  have hp := z0a (g.new (.cells [.int .u64 0, .nilsl] .rw)) g.next (some (.cells [.int .u64 (r.walk w), v] .rw))
  simp only [zj, zd, zg, zb, z14, Nat.zero_add, l8, iw, hld2, hst]
  generalize ((g.new (.cells [.int .u64 0, .nilsl] .rw)).put g.next (some (.cells [.int .u64 (r.walk w), v] .rw))) = g2 at F2 hp ⊢
  generalize g.next = p at hp ⊢
  have A2 := A.fr F2
  have hcl := A2.cl
  have l3 := A2.M.l3
  have hh := zsx A2.M w
  rw [if_pos ⟨w0, w1⟩] at hh
  have hvl := R.len
  have FF := F0.trans' F2
  have bad : (r.walk w = 0 ∨ r.walk w ≠ c.h ∨ (c.kind = 9 ∧ (r.come w).length = 0)) → err6 k r w c = 6 := fun h => by unfold err6; rw [if_pos h]
  have good : ¬ (r.walk w = 0 ∨ r.walk w ≠ c.h ∨ (c.kind = 9 ∧ (r.come w).length = 0)) → err6 k r w c = if c.kind = 9 ∧ ¬ (r.held w : Int) < k.hd then 5 else 0 := fun h => by unfold err6; rw [if_neg h]
  have lp0 : ldB (g2.get p) 0 = some (.int .u64 (r.walk w)) := by rw [hp]; rfl
  have lp1 : ldB (g2.get p) 1 = some v := by rw [hp, zf]; simp only [List.getElem?_cons_succ, List.getElem?_cons_zero, ov]
  by_cases h0 : c.h = 0
  · have d0 : decide (c.h = 0) = true := decide_eq_true h0
    simp only [S.z5z, S.z4x, S.z4u, S.z4t, zg, zd, zb, zf, List.getElem?_cons_zero, List.getElem?_cons_succ, Nat.zero_add, Nat.add_zero, zm, ze, hcl, d0]
    refine Ev.some ⟨?_, FF⟩
    rw [bad]
    by_cases hw : r.walk w = 0
    · exact .inl hw
    · exact .inr (.inl (by rw [h0]; exact hw))
  have d0 : decide (c.h = 0) = false := decide_eq_false h0
  by_cases hh2 : r.walk w = c.h
  rotate_left
  · have dh : decide (r.walk w = c.h) = false := decide_eq_false hh2
    simp only [S.z5z, S.z4x, S.z4u, S.z4t, zg, zd, zb, zf, List.getElem?_cons_zero, List.getElem?_cons_succ, Nat.zero_add, Nat.add_zero, zm, ze, Bool.not_false, hcl, lp0, d0, dh]
    exact Ev.some ⟨by rw [bad (.inr (.inl hh2))], FF⟩
  have dh : decide (r.walk w = c.h) = true := decide_eq_true hh2
  have hw0 : r.walk w ≠ 0 := by rw [hh2]; exact h0
  by_cases k10 : c.kind = 10
  · have d10 : decide (c.kind = 10) = true := decide_eq_true k10
    simp only [S.z5z, S.z4x, S.z4u, S.z4t, zj, zg, zd, zb, zf, List.getElem?_cons_zero, List.getElem?_cons_succ, Nat.zero_add, Nat.add_zero, zm, ze, Bool.not_true, zh, hcl, lp0, d0, dh, d10]
    refine Ev.some ⟨?_, FF⟩
    rw [good (fun q => q.elim hw0 fun q => q.elim (fun e => e hh2) fun q => by omega), if_neg (by omega)]
  have d10 : decide (c.kind = 10) = false := decide_eq_false k10
  have k9 : c.kind = 9 := by omega
  by_cases hl : ((r.come w).length : Int) = 0
  · have dl : decide (((r.come w).length : Int) = 0) = true := decide_eq_true hl
    simp only [S.z5z, S.z4x, S.z4u, S.z4t, zj, zg, zd, zb, zf, List.getElem?_cons_zero, List.getElem?_cons_succ, Nat.zero_add, Nat.add_zero, zm, ze, Bool.not_true, zh, hcl, lp0, lp1, hvl, d0, dh, d10, dl]
    exact Ev.some ⟨by rw [bad (.inr (.inr ⟨k9, by omega⟩))], FF⟩
  have dl : decide (((r.come w).length : Int) = 0) = false := decide_eq_false hl
  have hg := good (fun q => q.elim hw0 fun q => q.elim (fun e => e hh2) fun q => hl (by rw [q.2]; rfl))
  by_cases rm : (r.held w : Int) < k.hd
  · have dr : decide (k.hd ≤ (r.held w : Int)) = false := decide_eq_false (by omega)
    simp only [S.z5z, S.z4x, S.z4u, S.z4t, zj, zg, zd, zb, zf, List.getElem?_cons_zero, List.getElem?_cons_succ, Nat.zero_add, Nat.add_zero, zm, V.beq, z3c, ze, Bool.not_true, Bool.and_self, decide_true, zh, zj, hcl, lp0, lp1, hvl, l3, hh, d0, dh, d10, dl, dr]
    exact Ev.some ⟨by rw [hg, if_neg (fun q => q.2 rm)], FF⟩
  · have dr : decide (k.hd ≤ (r.held w : Int)) = true := decide_eq_true (by omega)
    simp only [S.z5z, S.z4x, S.z4u, S.z4t, zj, zg, zd, zb, zf, List.getElem?_cons_zero, List.getElem?_cons_succ, Nat.zero_add, Nat.add_zero, zm, V.beq, z3c, ze, Bool.not_true, Bool.and_self, decide_true, zh, zj, hcl, lp0, lp1, hvl, l3, hh, d0, dh, d10, dl, dr]
    exact Ev.some ⟨by rw [hg, if_pos ⟨k9, rm⟩], FF⟩
theorem z094 {g : H} {q : Nat} (A : AskAt k B r c g q) (I : RIn k r) {w : Int} (w0 : 0 ≤ w) (w1 : w < k.c) (hn : 0 ≤ r.node w c.h) (hf : 2 ≤ c.kind → c.kind ≤ 5 → 0 ≤ c.n ∧ c.n < ((r.fl (r.node w c.h)).length : Int)) :
    Ev ((S.zc2 W (S.zby (.ptr B.b 0) (.int .i64 w) (.ptr q 0) (.int .i64 (r.node w c.h))) g).bind fun p0 => S.zdl W p0.1 p0.2.1 p0.2.2) fun z => z.1 = .int .i64 (z00a k r w c) ∧ z.2 = g := by
  have hcl := A.cl
  have l6 := A.M.l6
  have l8 := A.M.l8
  have l3 := A.M.l3
  have hh := zsx A.M w
  rw [if_pos ⟨w0, w1⟩] at hh
  obtain ⟨i, v, hwi, hv, hW, hCm, iw, lw, lv, R⟩ := A.M.walk w0 w1
  obtain ⟨nn, en, hF⟩ := I.flAt hn
  obtain ⟨b, y, ix, ly, Y⟩ := A.M.rows.at hF
  rw [← en] at ix
  unfold z00a
  by_cases k2 : c.kind = 2
  · obtain ⟨h0, h1⟩ := hf (by omega) (by omega)
    obtain ⟨j, ej, hj⟩ := RSt.fatAt h0 h1
    obtain ⟨b3, o3', i3, l3'⟩ := Y.at hj
    rw [← ej] at i3
    have d2 : decide (c.kind = 2) = true := decide_eq_true k2
    have d8 : decide (c.kind = 8) = false := decide_eq_false (by omega)
    have n8 : ¬ c.kind = 8 := by omega
    by_cases f0 : 0 ≤ r.fat (r.node w c.h) c.n
    · have df : decide (0 ≤ r.fat (r.node w c.h) c.n) = true := decide_eq_true f0
      by_cases rm : (r.held w : Int) < k.hd
      · have dr : decide (k.hd ≤ (r.held w : Int)) = false := decide_eq_false (by omega)
        rw [if_neg (fun q => q.2.2 rm), if_neg (fun q => n8 q.1)]
        simp only [S.z60, S.z4y, S.z4z, S.z4v, zj, zg, zd, zb, zf, List.getElem?_cons_zero, List.getElem?_cons_succ, Nat.zero_add, Nat.add_zero, zm, V.beq, z3c, ze, Bool.and_self, decide_true, zh, zj, hcl, l6, l3, hh, d2, ix, ly, i3, l3', df, dr, d8]
        exact Ev.some ⟨rfl, rfl⟩
      · have dr : decide (k.hd ≤ (r.held w : Int)) = true := decide_eq_true (by omega)
        rw [if_pos ⟨k2, f0, rm⟩]
        simp only [S.z60, S.z4y, S.z4z, S.z4v, zj, zg, zd, zb, zf, List.getElem?_cons_zero, List.getElem?_cons_succ, Nat.zero_add, Nat.add_zero, zm, V.beq, z3c, ze, Bool.and_self, decide_true, zh, zj, hcl, l6, l3, hh, d2, ix, ly, i3, l3', df, dr]
        exact Ev.some ⟨rfl, rfl⟩
    · have df : decide (0 ≤ r.fat (r.node w c.h) c.n) = false := decide_eq_false f0
      rw [if_neg (fun q => f0 q.2.1), if_neg (fun q => n8 q.1)]
      simp only [S.z60, S.z4y, S.z4z, S.z4v, zj, zg, zd, zb, zf, List.getElem?_cons_zero, List.getElem?_cons_succ, Nat.zero_add, Nat.add_zero, zm, ze, zh, zj, hcl, l6, d2, ix, ly, i3, l3', df, d8]
      exact Ev.some ⟨rfl, rfl⟩
  · have d2 : decide (c.kind = 2) = false := decide_eq_false k2
    rw [if_neg (fun q => k2 q.1)]
    by_cases k8 : c.kind = 8
    · have d8 : decide (c.kind = 8) = true := decide_eq_true k8
      by_cases hw : r.walk w = 0
      · have dw : decide (r.walk w = 0) = true := decide_eq_true hw
        rw [if_neg (fun q => q.2 hw)]
        simp only [S.z60, S.z4y, S.z4z, S.z4v, zj, zg, zd, zb, zf, List.getElem?_cons_zero, List.getElem?_cons_succ, Nat.zero_add, Nat.add_zero, zm, ze, Bool.not_true, zh, zj, hcl, l8, d2, d8, iw, lw, dw]
        exact Ev.some ⟨rfl, rfl⟩
      · have dw : decide (r.walk w = 0) = false := decide_eq_false hw
        rw [if_pos ⟨k8, hw⟩]
        simp only [S.z60, S.z4y, S.z4z, S.z4v, zj, zg, zd, zb, zf, List.getElem?_cons_zero, List.getElem?_cons_succ, Nat.zero_add, Nat.add_zero, zm, ze, Bool.not_false, zh, zj, hcl, l8, d2, d8, iw, lw, dw]
        exact Ev.some ⟨rfl, rfl⟩
    · have d8 : decide (c.kind = 8) = false := decide_eq_false k8
      rw [if_neg (fun q => k8 q.1)]
      simp only [S.z60, S.z4y, S.z4z, S.z4v, zj, zg, zd, zb, zf, List.getElem?_cons_zero, List.getElem?_cons_succ, Nat.zero_add, Nat.add_zero, zm, ze, zh, hcl, d2, d8]
      exact Ev.some ⟨rfl, rfl⟩
theorem z09m {g : H} {q : Nat} (A : AskAt k B r c g q) (I : RIn k r) {w : Int} (w0 : 0 ≤ w) (w1 : w < k.c) (hn : 0 ≤ r.node w c.h) :
    Ev ((S.zex W (S.zff (.ptr B.b 0) (.int .i64 w) (.ptr q 0) (.int .i64 (r.node w c.h))) g).bind fun p0 => S.zgr W p0.1 p0.2.1 p0.2.2) fun z => z.1 = .int .i64 (zpe k r w c) ∧ z.2 = g := by
  have hcl := A.cl
  have l6 := A.M.l6
  obtain ⟨nn, en, hF⟩ := I.flAt hn
  obtain ⟨b, y, ix, ly, Y⟩ := A.M.rows.at hF
  have hyl := Y.len
  rw [← en] at ix
  have hWr := zuy c.kind g
  have bad : (2 ≤ c.kind ∧ c.kind ≤ 5) ∧ (c.n < 0 ∨ ((r.fl (r.node w c.h)).length : Int) ≤ c.n) → zpe k r w c = 3 := fun hc => by unfold zpe; rw [if_pos hc]
  have good : ¬ ((2 ≤ c.kind ∧ c.kind ≤ 5) ∧ (c.n < 0 ∨ ((r.fl (r.node w c.h)).length : Int) ≤ c.n)) → zpe k r w c = z00a k r w c := fun hc => by unfold zpe; rw [if_neg hc]
  have fin : ¬ ((2 ≤ c.kind ∧ c.kind ≤ 5) ∧ (c.n < 0 ∨ ((r.fl (r.node w c.h)).length : Int) ≤ c.n)) → Ev ((S.zc2 W (S.zby (.ptr B.b 0) (.int .i64 w) (.ptr q 0) (.int .i64 (r.node w c.h))) g).bind fun p0 => S.zdl W p0.1 p0.2.1 p0.2.2) fun z => z.1 = .int .i64 (zpe k r w c) ∧ z.2 = g := fun hc => by
    rw [good hc]
    exact z094 A I w0 w1 hn fun h1 h2 => ⟨Int.not_lt.mp fun e => hc ⟨⟨h1, h2⟩, .inl e⟩, Int.not_le.mp fun e => hc ⟨⟨h1, h2⟩, .inr e⟩⟩
  -- does it name a field?
  by_cases kf : 2 ≤ c.kind ∧ c.kind ≤ 5
  · by_cases k2 : c.kind = 2
    · have d2 : decide (c.kind = 2) = true := decide_eq_true k2
      by_cases n0 : c.n < 0
      · have dn : decide (c.n < 0) = true := decide_eq_true n0
        simp only [S.z4g, S.z3r, S.z3f, S.z3t, zj, zg, zd, zb, zf, List.getElem?_cons_zero, List.getElem?_cons_succ, Nat.zero_add, Nat.add_zero, zm, ze, zh, hcl, d2, dn]
        exact Ev.some ⟨by rw [bad ⟨kf, .inl n0⟩], rfl⟩
      · have dn : decide (c.n < 0) = false := decide_eq_false n0
        by_cases nl : ((r.fl (r.node w c.h)).length : Int) ≤ c.n
        · have dl : decide (((r.fl (r.node w c.h)).length : Int) ≤ c.n) = true := decide_eq_true nl
          simp only [S.z4g, S.z3r, S.z3f, S.z3t, zj, zg, zd, zb, zf, List.getElem?_cons_zero, List.getElem?_cons_succ, Nat.zero_add, Nat.add_zero, zm, ze, zh, zj, hcl, l6, ix, ly, hyl, d2, dn, dl]
          exact Ev.some ⟨by rw [bad ⟨kf, .inr nl⟩], rfl⟩
        · have dl : decide (((r.fl (r.node w c.h)).length : Int) ≤ c.n) = false := decide_eq_false nl
          simp only [S.z4g, S.z3r, S.z3f, S.z3t, zj, zg, zd, zb, zf, List.getElem?_cons_zero, List.getElem?_cons_succ, Nat.zero_add, Nat.add_zero, zm, ze, zh, zj, hcl, l6, ix, ly, hyl, d2, dn, dl]
          exact fin fun q => q.2.elim n0 nl
    · have d2 : decide (c.kind = 2) = false := decide_eq_false k2
      rw [decide_eq_true (show 3 ≤ c.kind by omega), decide_eq_true kf.2] at hWr
      by_cases n0 : c.n < 0
      · have dn : decide (c.n < 0) = true := decide_eq_true n0
        simp only [S.z4g, S.z3r, S.z3f, S.z3t, zj, zg, zd, zb, zf, List.getElem?_cons_zero, List.getElem?_cons_succ, Nat.zero_add, Nat.add_zero, zm, ze, Bool.and_self, zh, hcl, d2, hWr, dn]
        exact Ev.some ⟨by rw [bad ⟨kf, .inl n0⟩], rfl⟩
      · have dn : decide (c.n < 0) = false := decide_eq_false n0
        by_cases nl : ((r.fl (r.node w c.h)).length : Int) ≤ c.n
        · have dl : decide (((r.fl (r.node w c.h)).length : Int) ≤ c.n) = true := decide_eq_true nl
          simp only [S.z4g, S.z3r, S.z3f, S.z3t, zj, zg, zd, zb, zf, List.getElem?_cons_zero, List.getElem?_cons_succ, Nat.zero_add, Nat.add_zero, zm, ze, Bool.and_self, zh, zj, hcl, l6, ix, ly, hyl, d2, hWr, dn, dl]
          exact Ev.some ⟨by rw [bad ⟨kf, .inr nl⟩], rfl⟩
        · have dl : decide (((r.fl (r.node w c.h)).length : Int) ≤ c.n) = false := decide_eq_false nl
          simp only [S.z4g, S.z3r, S.z3f, S.z3t, zj, zg, zd, zb, zf, List.getElem?_cons_zero, List.getElem?_cons_succ, Nat.zero_add, Nat.add_zero, zm, ze, Bool.and_self, zh, zj, hcl, l6, ix, ly, hyl, d2, hWr, dn, dl]
          exact fin fun q => q.2.elim n0 nl
  · have d2 : decide (c.kind = 2) = false := decide_eq_false fun e => kf ⟨by omega, by omega⟩
    have hb : (decide (3 ≤ c.kind) && decide (c.kind ≤ 5)) = false := by
      cases h3 : decide (3 ≤ c.kind) with
      | false => rfl
      | true =>
        have := of_decide_eq_true h3
        rw [decide_eq_false (fun q => kf ⟨by omega, q⟩)]; rfl
    rw [hb] at hWr
    simp only [S.z4g, S.z3r, S.z3f, S.z3t, zj, zg, zd, zb, zf, List.getElem?_cons_zero, List.getElem?_cons_succ, Nat.zero_add, Nat.add_zero, zm, ze, zh, hcl, d2, hWr]
    exact fin fun q => kf q.1
theorem z066 {h : H} (ok : h.ok) (M : MdAt k h.get B r) (I : RIn k r) {w : Int} (w0 : 0 ≤ w) (w1 : w < k.c) :
    Ev (C 282 [.ptr B.b 0, .int .i64 w, .agg c.cs] h) fun z => z.1 = .int .i64 (err9 k r w c) ∧ Fr [] h z.2 := by
  refine z0i (af := F.z0o) (by kernel_rfl) rfl ?_
  have hcs : V.agg c.cs = .agg [.int .i64 c.kind, .int .i64 c.n, .int .u64 c.h, .int .u64 c.x, .int .u64 c.y] := rfl
  rw [hcs, S.zvu]
  simp only [S.z0o]
  have A := AskAt.new ok M c
  have F0 : Fr [] h (h.new (.cells [.int .i64 c.kind, .int .i64 c.n, .int .u64 c.h, .int .u64 c.x, .int .u64 c.y] .rw)) := (Fr.refl ok).new _
  generalize (h.new (.cells [.int .i64 c.kind, .int .i64 c.n, .int .u64 c.h, .int .u64 c.x, .int .u64 c.y] .rw)) = g at A F0 ⊢
  generalize h.next = q at A ⊢
  have hcl := A.cl
  have n1 := zcp A.M w c.h
  have n2 := zcp A.M w c.x
  have n3 := zcp A.M w c.y
  rw [if_pos ⟨w0, w1⟩] at n1 n2 n3
  rw [z0df]
  -- what stands behind the switch
  have fin : ∀ b : Bool, b = !bad9 (r.node w c.h) (r.node w c.x) (r.node w c.y) c → Ev (S.zbz W (.ptr B.b 0) w (.ptr q 0) (r.node w c.h) b g) fun z => z.1 = .int .i64 (if bad9 (r.node w c.h) (r.node w c.x) (r.node w c.y) c then 2 else zpe k r w c) ∧ Fr [] h z.2 := by
    rintro b rfl
    cases hb : bad9 (r.node w c.h) (r.node w c.x) (r.node w c.y) c with
    | true =>
      simp only [S.zbz, Bool.not_true, Bool.not_false, if_true]
      exact Ev.some ⟨rfl, F0⟩
    | false =>
      have hn : 0 ≤ r.node w c.h := by
        unfold bad9 at hb
        simp only [Bool.or_eq_false_iff, decide_eq_false_iff_not] at hb
        exact Int.not_lt.mp hb.1.1.1
      simp only [S.zbz, Bool.not_true, Bool.not_false, if_false, Bool.false_eq_true, if_false]
      exact (z09m A I w0 w1 hn).mono fun z hz => ⟨hz.1, by rw [hz.2]; exact F0⟩
  have hneg : decide (r.node w c.h < 0) = !decide (0 ≤ r.node w c.h) := by
    cases h0 : decide (0 ≤ r.node w c.h) with
    | true => exact decide_eq_false (by have := of_decide_eq_true h0; omega)
    | false => exact decide_eq_true (by have := of_decide_eq_false h0; omega)
  simp only [zd, zb, zf, List.getElem?_cons_zero, List.getElem?_cons_succ, zm, ze, zh, hcl, n1]
  unfold bad9 at fin ⊢
  rw [hneg] at fin ⊢
  cases d3 : decide (c.kind = 3) with
  | true =>
    have d7 : decide (c.kind = 7) = false := decide_eq_false (by have := of_decide_eq_true d3; omega)
    have d5 : decide (c.kind = 5) = false := decide_eq_false (by have := of_decide_eq_true d3; omega)
    rw [d3, d7, d5] at fin
    cases dh : decide (0 ≤ r.node w c.h) with
    | true =>
      rw [dh] at fin
      simp only [S.z1d, S.z13, S.z0w, S.z18, S.z11, S.z0u, S.z12, zg, zd, zb, zf, List.getElem?_cons_zero, List.getElem?_cons_succ, Nat.zero_add, Nat.add_zero, zm, ze, Bool.true_and, Bool.false_and, Bool.not_true, Bool.or_false, Bool.false_or, zh, hcl, d3, d7, d5, n2]
      have := fin (decide (0 ≤ r.node w c.x)) (by cases decide (0 ≤ r.node w c.x) <;> rfl)
      simpa only [zj, z3a, zbg, z1t, zbh, z9n, zcu, zd8, zg, zd, Option.map_some, zb, z14, z2u, get_put', z8e, z9g, zf, z0s, z4e, H.next_new, H.next_put, List.getElem?_cons_zero, List.getElem?_cons_succ, Nat.zero_add, Nat.add_zero, Nat.reduceAdd, Nat.reduceLeDiff, Nat.reduceLT, Nat.reduceMul, Nat.reduceSub, Nat.reduceEqDiff, Int.reduceEq, Int.reduceLT, Int.reduceLE, Int.reduceNeg, z8m, zm, zer, zfi, zde, zhu, zbt, zfl, z9w, zhg, zbs, zfc, z9p, z9k, z6t, zbr, zb8, z9v, zd1, z88, zbj, z6s, zcy, z7w, zbb, z6v, z61, V.beq, V.beqs, z3c, ze, z04, z7v, asS, List.length_cons, List.length_nil, Nat.beq_refl, List.all_cons, List.all_nil, Bool.and_true, Bool.and_false, Bool.true_and, Bool.false_and, Bool.not_true, Bool.not_false, Bool.or_false, Bool.false_or, Bool.or_self, Bool.and_self, decide_true, decide_false, if_true, if_false, z0e, List.take_succ_cons, List.take_zero, List.drop_succ_cons, List.drop_zero, List.cons_append, List.nil_append, List.set_cons_zero, List.set_cons_succ, reduceCtorEq, fill, repl, opd, zdc, zc5, zfq, zfm, zd4, zgf, zbe, zf8, z9r, zhk, zbl, zf3, za3, zdy, finV, zcv, zgh, zbq, eqV, zii, z70, part, zh, Nat.reduceBEq, Nat.beq_eq, Bool.true_or, Bool.or_true] using this
    | false =>
      rw [dh] at fin
      simp only [S.z1d, S.z13, S.z0w, S.z18, S.z11, S.z0u, S.z12, zg, zd, zb, zf, List.getElem?_cons_zero, Nat.add_zero, zm, Bool.true_and, Bool.false_and, Bool.not_false, Bool.or_false, hcl, d3, d7, d5]
      have := fin false (by rfl)
      simpa only [zj, z3a, zbg, z1t, zbh, z9n, zcu, zd8, zg, zd, Option.map_some, zb, z14, z2u, get_put', z8e, z9g, zf, z0s, z4e, H.next_new, H.next_put, List.getElem?_cons_zero, List.getElem?_cons_succ, Nat.zero_add, Nat.add_zero, Nat.reduceAdd, Nat.reduceLeDiff, Nat.reduceLT, Nat.reduceMul, Nat.reduceSub, Nat.reduceEqDiff, Int.reduceEq, Int.reduceLT, Int.reduceLE, Int.reduceNeg, z8m, zm, zer, zfi, zde, zhu, zbt, zfl, z9w, zhg, zbs, zfc, z9p, z9k, z6t, zbr, zb8, z9v, zd1, z88, zbj, z6s, zcy, z7w, zbb, z6v, z61, V.beq, V.beqs, z3c, ze, z04, z7v, asS, List.length_cons, List.length_nil, Nat.beq_refl, List.all_cons, List.all_nil, Bool.and_true, Bool.and_false, Bool.true_and, Bool.false_and, Bool.not_true, Bool.not_false, Bool.or_false, Bool.false_or, Bool.or_self, Bool.and_self, decide_true, decide_false, if_true, if_false, z0e, List.take_succ_cons, List.take_zero, List.drop_succ_cons, List.drop_zero, List.cons_append, List.nil_append, List.set_cons_zero, List.set_cons_succ, reduceCtorEq, fill, repl, opd, zdc, zc5, zfq, zfm, zd4, zgf, zbe, zf8, z9r, zhk, zbl, zf3, za3, zdy, finV, zcv, zgh, zbq, eqV, zii, z70, part, zh, Nat.reduceBEq, Nat.beq_eq, Bool.true_or, Bool.or_true] using this
  | false =>
  cases d7 : decide (c.kind = 7) with
  | true =>
    have d5 : decide (c.kind = 5) = false := decide_eq_false (by have := of_decide_eq_true d7; omega)
    rw [d3, d7, d5] at fin
    cases dh : decide (0 ≤ r.node w c.h) with
    | true =>
      rw [dh] at fin
      simp only [S.z1d, S.z13, S.z0w, S.z18, S.z11, S.z0u, S.z12, zg, zd, zb, zf, List.getElem?_cons_zero, List.getElem?_cons_succ, Nat.zero_add, Nat.add_zero, zm, ze, Bool.true_and, Bool.false_and, Bool.not_true, Bool.or_false, Bool.false_or, Bool.or_self, zh, hcl, d3, d7, d5, n2]
      have := fin (decide (0 ≤ r.node w c.x)) (by cases decide (0 ≤ r.node w c.x) <;> rfl)
      simpa only [zj, z3a, zbg, z1t, zbh, z9n, zcu, zd8, zg, zd, Option.map_some, zb, z14, z2u, get_put', z8e, z9g, zf, z0s, z4e, H.next_new, H.next_put, List.getElem?_cons_zero, List.getElem?_cons_succ, Nat.zero_add, Nat.add_zero, Nat.reduceAdd, Nat.reduceLeDiff, Nat.reduceLT, Nat.reduceMul, Nat.reduceSub, Nat.reduceEqDiff, Int.reduceEq, Int.reduceLT, Int.reduceLE, Int.reduceNeg, z8m, zm, zer, zfi, zde, zhu, zbt, zfl, z9w, zhg, zbs, zfc, z9p, z9k, z6t, zbr, zb8, z9v, zd1, z88, zbj, z6s, zcy, z7w, zbb, z6v, z61, V.beq, V.beqs, z3c, ze, z04, z7v, asS, List.length_cons, List.length_nil, Nat.beq_refl, List.all_cons, List.all_nil, Bool.and_true, Bool.and_false, Bool.true_and, Bool.false_and, Bool.not_true, Bool.not_false, Bool.or_false, Bool.false_or, Bool.or_self, Bool.and_self, decide_true, decide_false, if_true, if_false, z0e, List.take_succ_cons, List.take_zero, List.drop_succ_cons, List.drop_zero, List.cons_append, List.nil_append, List.set_cons_zero, List.set_cons_succ, reduceCtorEq, fill, repl, opd, zdc, zc5, zfq, zfm, zd4, zgf, zbe, zf8, z9r, zhk, zbl, zf3, za3, zdy, finV, zcv, zgh, zbq, eqV, zii, z70, part, zh, Nat.reduceBEq, Nat.beq_eq, Bool.true_or, Bool.or_true] using this
    | false =>
      rw [dh] at fin
      simp only [S.z1d, S.z13, S.z0w, S.z18, S.z11, S.z0u, S.z12, zg, zd, zb, zf, List.getElem?_cons_zero, Nat.add_zero, zm, Bool.true_and, Bool.false_and, Bool.not_false, Bool.or_false, hcl, d3, d7, d5]
      have := fin false (by rfl)
      simpa only [zj, z3a, zbg, z1t, zbh, z9n, zcu, zd8, zg, zd, Option.map_some, zb, z14, z2u, get_put', z8e, z9g, zf, z0s, z4e, H.next_new, H.next_put, List.getElem?_cons_zero, List.getElem?_cons_succ, Nat.zero_add, Nat.add_zero, Nat.reduceAdd, Nat.reduceLeDiff, Nat.reduceLT, Nat.reduceMul, Nat.reduceSub, Nat.reduceEqDiff, Int.reduceEq, Int.reduceLT, Int.reduceLE, Int.reduceNeg, z8m, zm, zer, zfi, zde, zhu, zbt, zfl, z9w, zhg, zbs, zfc, z9p, z9k, z6t, zbr, zb8, z9v, zd1, z88, zbj, z6s, zcy, z7w, zbb, z6v, z61, V.beq, V.beqs, z3c, ze, z04, z7v, asS, List.length_cons, List.length_nil, Nat.beq_refl, List.all_cons, List.all_nil, Bool.and_true, Bool.and_false, Bool.true_and, Bool.false_and, Bool.not_true, Bool.not_false, Bool.or_false, Bool.false_or, Bool.or_self, Bool.and_self, decide_true, decide_false, if_true, if_false, z0e, List.take_succ_cons, List.take_zero, List.drop_succ_cons, List.drop_zero, List.cons_append, List.nil_append, List.set_cons_zero, List.set_cons_succ, reduceCtorEq, fill, repl, opd, zdc, zc5, zfq, zfm, zd4, zgf, zbe, zf8, z9r, zhk, zbl, zf3, za3, zdy, finV, zcv, zgh, zbq, eqV, zii, z70, part, zh, Nat.reduceBEq, Nat.beq_eq, Bool.true_or, Bool.or_true] using this
  | false =>
  cases d5 : decide (c.kind = 5) with
  | false =>
    rw [d3, d7, d5] at fin
    simp only [S.z1d, S.z13, S.z0w, S.z18, S.z11, S.z0u, S.z12, zg, zd, zb, zf, List.getElem?_cons_zero, Nat.add_zero, zm, Bool.false_and, Bool.or_false, hcl, d3, d7, d5]
    have := fin (decide (0 ≤ r.node w c.h)) (by cases decide (0 ≤ r.node w c.h) <;> rfl)
    simpa only [zj, z3a, zbg, z1t, zbh, z9n, zcu, zd8, zg, zd, Option.map_some, zb, z14, z2u, get_put', z8e, z9g, zf, z0s, z4e, H.next_new, H.next_put, List.getElem?_cons_zero, List.getElem?_cons_succ, Nat.zero_add, Nat.add_zero, Nat.reduceAdd, Nat.reduceLeDiff, Nat.reduceLT, Nat.reduceMul, Nat.reduceSub, Nat.reduceEqDiff, Int.reduceEq, Int.reduceLT, Int.reduceLE, Int.reduceNeg, z8m, zm, zer, zfi, zde, zhu, zbt, zfl, z9w, zhg, zbs, zfc, z9p, z9k, z6t, zbr, zb8, z9v, zd1, z88, zbj, z6s, zcy, z7w, zbb, z6v, z61, V.beq, V.beqs, z3c, ze, z04, z7v, asS, List.length_cons, List.length_nil, Nat.beq_refl, List.all_cons, List.all_nil, Bool.and_true, Bool.and_false, Bool.true_and, Bool.false_and, Bool.not_true, Bool.not_false, Bool.or_false, Bool.false_or, Bool.or_self, Bool.and_self, decide_true, decide_false, if_true, if_false, z0e, List.take_succ_cons, List.take_zero, List.drop_succ_cons, List.drop_zero, List.cons_append, List.nil_append, List.set_cons_zero, List.set_cons_succ, reduceCtorEq, fill, repl, opd, zdc, zc5, zfq, zfm, zd4, zgf, zbe, zf8, z9r, zhk, zbl, zf3, za3, zdy, finV, zcv, zgh, zbq, eqV, zii, z70, part, zh, Nat.reduceBEq, Nat.beq_eq, Bool.true_or, Bool.or_true] using this
  | true =>
    rw [d3, d7, d5] at fin
    cases dh : decide (0 ≤ r.node w c.h) with
    | false =>
      rw [dh] at fin
      simp only [S.z1d, S.z13, S.z0w, S.z18, S.z11, S.z0u, S.z12, zg, zd, zb, zf, List.getElem?_cons_zero, Nat.add_zero, zm, Bool.true_and, Bool.false_and, Bool.not_false, Bool.or_false, hcl, d3, d7, d5]
      have := fin false (by rfl)
      simpa only [zj, z3a, zbg, z1t, zbh, z9n, zcu, zd8, zg, zd, Option.map_some, zb, z14, z2u, get_put', z8e, z9g, zf, z0s, z4e, H.next_new, H.next_put, List.getElem?_cons_zero, List.getElem?_cons_succ, Nat.zero_add, Nat.add_zero, Nat.reduceAdd, Nat.reduceLeDiff, Nat.reduceLT, Nat.reduceMul, Nat.reduceSub, Nat.reduceEqDiff, Int.reduceEq, Int.reduceLT, Int.reduceLE, Int.reduceNeg, z8m, zm, zer, zfi, zde, zhu, zbt, zfl, z9w, zhg, zbs, zfc, z9p, z9k, z6t, zbr, zb8, z9v, zd1, z88, zbj, z6s, zcy, z7w, zbb, z6v, z61, V.beq, V.beqs, z3c, ze, z04, z7v, asS, List.length_cons, List.length_nil, Nat.beq_refl, List.all_cons, List.all_nil, Bool.and_true, Bool.and_false, Bool.true_and, Bool.false_and, Bool.not_true, Bool.not_false, Bool.or_false, Bool.false_or, Bool.or_self, Bool.and_self, decide_true, decide_false, if_true, if_false, z0e, List.take_succ_cons, List.take_zero, List.drop_succ_cons, List.drop_zero, List.cons_append, List.nil_append, List.set_cons_zero, List.set_cons_succ, reduceCtorEq, fill, repl, opd, zdc, zc5, zfq, zfm, zd4, zgf, zbe, zf8, z9r, zhk, zbl, zf3, za3, zdy, finV, zcv, zgh, zbq, eqV, zii, z70, part, zh, Nat.reduceBEq, Nat.beq_eq, Bool.true_or, Bool.or_true] using this
    | true =>
      rw [dh] at fin
      cases ex : decide (c.x = 0) with
      | true =>
        rw [ex] at fin
        cases ey : decide (c.y = 0) with
        | true =>
          rw [ey] at fin
          simp only [S.z1d, S.z13, S.z0w, S.z18, S.z11, S.z0u, S.z12, zg, zd, zb, zf, List.getElem?_cons_zero, List.getElem?_cons_succ, Nat.zero_add, Nat.add_zero, zm, ze, Bool.and_false, Bool.false_and, Bool.not_true, Bool.or_self, if_false, reduceCtorEq, zh, hcl, d3, d7, d5, ex, ey]
          have := fin true (by rfl)
          simpa only [zj, z3a, zbg, z1t, zbh, z9n, zcu, zd8, zg, zd, Option.map_some, zb, z14, z2u, get_put', z8e, z9g, zf, z0s, z4e, H.next_new, H.next_put, List.getElem?_cons_zero, List.getElem?_cons_succ, Nat.zero_add, Nat.add_zero, Nat.reduceAdd, Nat.reduceLeDiff, Nat.reduceLT, Nat.reduceMul, Nat.reduceSub, Nat.reduceEqDiff, Int.reduceEq, Int.reduceLT, Int.reduceLE, Int.reduceNeg, z8m, zm, zer, zfi, zde, zhu, zbt, zfl, z9w, zhg, zbs, zfc, z9p, z9k, z6t, zbr, zb8, z9v, zd1, z88, zbj, z6s, zcy, z7w, zbb, z6v, z61, V.beq, V.beqs, z3c, ze, z04, z7v, asS, List.length_cons, List.length_nil, Nat.beq_refl, List.all_cons, List.all_nil, Bool.and_true, Bool.and_false, Bool.true_and, Bool.false_and, Bool.not_true, Bool.not_false, Bool.or_false, Bool.false_or, Bool.or_self, Bool.and_self, decide_true, decide_false, if_true, if_false, z0e, List.take_succ_cons, List.take_zero, List.drop_succ_cons, List.drop_zero, List.cons_append, List.nil_append, List.set_cons_zero, List.set_cons_succ, reduceCtorEq, fill, repl, opd, zdc, zc5, zfq, zfm, zd4, zgf, zbe, zf8, z9r, zhk, zbl, zf3, za3, zdy, finV, zcv, zgh, zbq, eqV, zii, z70, part, zh, Nat.reduceBEq, Nat.beq_eq, Bool.true_or, Bool.or_true] using this
        | false =>
          rw [ey] at fin
          simp only [S.z1d, S.z13, S.z0w, S.z18, S.z11, S.z0u, S.z12, zg, zd, zb, zf, List.getElem?_cons_zero, List.getElem?_cons_succ, Nat.zero_add, Nat.add_zero, zm, ze, Bool.true_and, Bool.false_and, Bool.not_true, Bool.not_false, Bool.false_or, Bool.or_self, zh, hcl, d3, d7, d5, ex, ey, n3]
          have := fin (decide (0 ≤ r.node w c.y)) (by cases decide (0 ≤ r.node w c.y) <;> cases decide (0 ≤ r.node w c.x) <;> rfl)
          simpa only [zj, z3a, zbg, z1t, zbh, z9n, zcu, zd8, zg, zd, Option.map_some, zb, z14, z2u, get_put', z8e, z9g, zf, z0s, z4e, H.next_new, H.next_put, List.getElem?_cons_zero, List.getElem?_cons_succ, Nat.zero_add, Nat.add_zero, Nat.reduceAdd, Nat.reduceLeDiff, Nat.reduceLT, Nat.reduceMul, Nat.reduceSub, Nat.reduceEqDiff, Int.reduceEq, Int.reduceLT, Int.reduceLE, Int.reduceNeg, z8m, zm, zer, zfi, zde, zhu, zbt, zfl, z9w, zhg, zbs, zfc, z9p, z9k, z6t, zbr, zb8, z9v, zd1, z88, zbj, z6s, zcy, z7w, zbb, z6v, z61, V.beq, V.beqs, z3c, ze, z04, z7v, asS, List.length_cons, List.length_nil, Nat.beq_refl, List.all_cons, List.all_nil, Bool.and_true, Bool.and_false, Bool.true_and, Bool.false_and, Bool.not_true, Bool.not_false, Bool.or_false, Bool.false_or, Bool.or_self, Bool.and_self, decide_true, decide_false, if_true, if_false, z0e, List.take_succ_cons, List.take_zero, List.drop_succ_cons, List.drop_zero, List.cons_append, List.nil_append, List.set_cons_zero, List.set_cons_succ, reduceCtorEq, fill, repl, opd, zdc, zc5, zfq, zfm, zd4, zgf, zbe, zf8, z9r, zhk, zbl, zf3, za3, zdy, finV, zcv, zgh, zbq, eqV, zii, z70, part, zh, Nat.reduceBEq, Nat.beq_eq, Bool.true_or, Bool.or_true] using this
      | false =>
        rw [ex] at fin
        cases dx : decide (0 ≤ r.node w c.x) with
        | false =>
          rw [dx] at fin
          simp only [S.z1d, S.z13, S.z0w, S.z18, S.z11, S.z0u, S.z12, zg, zd, zb, zf, List.getElem?_cons_zero, List.getElem?_cons_succ, Nat.zero_add, Nat.add_zero, zm, ze, Bool.and_true, Bool.true_and, Bool.not_true, Bool.not_false, Bool.false_or, Bool.or_self, Bool.and_self, zh, hcl, d3, d7, d5, ex, n2, dx]
          have := fin false (by rfl)
          simpa only [zj, z3a, zbg, z1t, zbh, z9n, zcu, zd8, zg, zd, Option.map_some, zb, z14, z2u, get_put', z8e, z9g, zf, z0s, z4e, H.next_new, H.next_put, List.getElem?_cons_zero, List.getElem?_cons_succ, Nat.zero_add, Nat.add_zero, Nat.reduceAdd, Nat.reduceLeDiff, Nat.reduceLT, Nat.reduceMul, Nat.reduceSub, Nat.reduceEqDiff, Int.reduceEq, Int.reduceLT, Int.reduceLE, Int.reduceNeg, z8m, zm, zer, zfi, zde, zhu, zbt, zfl, z9w, zhg, zbs, zfc, z9p, z9k, z6t, zbr, zb8, z9v, zd1, z88, zbj, z6s, zcy, z7w, zbb, z6v, z61, V.beq, V.beqs, z3c, ze, z04, z7v, asS, List.length_cons, List.length_nil, Nat.beq_refl, List.all_cons, List.all_nil, Bool.and_true, Bool.and_false, Bool.true_and, Bool.false_and, Bool.not_true, Bool.not_false, Bool.or_false, Bool.false_or, Bool.or_self, Bool.and_self, decide_true, decide_false, if_true, if_false, z0e, List.take_succ_cons, List.take_zero, List.drop_succ_cons, List.drop_zero, List.cons_append, List.nil_append, List.set_cons_zero, List.set_cons_succ, reduceCtorEq, fill, repl, opd, zdc, zc5, zfq, zfm, zd4, zgf, zbe, zf8, z9r, zhk, zbl, zf3, za3, zdy, finV, zcv, zgh, zbq, eqV, zii, z70, part, zh, Nat.reduceBEq, Nat.beq_eq, Bool.true_or, Bool.or_true] using this
        | true =>
          rw [dx] at fin
          cases ey : decide (c.y = 0) with
          | true =>
            rw [ey] at fin
            simp only [S.z1d, S.z13, S.z0w, S.z18, S.z11, S.z0u, S.z12, zg, zd, zb, zf, List.getElem?_cons_zero, List.getElem?_cons_succ, Nat.zero_add, Nat.add_zero, zm, ze, Bool.and_false, Bool.false_and, Bool.not_true, Bool.not_false, Bool.or_self, Bool.and_self, if_false, reduceCtorEq, zh, hcl, d3, d7, d5, ex, n2, dx, ey]
            have := fin true (by rfl)
            simpa only [zj, z3a, zbg, z1t, zbh, z9n, zcu, zd8, zg, zd, Option.map_some, zb, z14, z2u, get_put', z8e, z9g, zf, z0s, z4e, H.next_new, H.next_put, List.getElem?_cons_zero, List.getElem?_cons_succ, Nat.zero_add, Nat.add_zero, Nat.reduceAdd, Nat.reduceLeDiff, Nat.reduceLT, Nat.reduceMul, Nat.reduceSub, Nat.reduceEqDiff, Int.reduceEq, Int.reduceLT, Int.reduceLE, Int.reduceNeg, z8m, zm, zer, zfi, zde, zhu, zbt, zfl, z9w, zhg, zbs, zfc, z9p, z9k, z6t, zbr, zb8, z9v, zd1, z88, zbj, z6s, zcy, z7w, zbb, z6v, z61, V.beq, V.beqs, z3c, ze, z04, z7v, asS, List.length_cons, List.length_nil, Nat.beq_refl, List.all_cons, List.all_nil, Bool.and_true, Bool.and_false, Bool.true_and, Bool.false_and, Bool.not_true, Bool.not_false, Bool.or_false, Bool.false_or, Bool.or_self, Bool.and_self, decide_true, decide_false, if_true, if_false, z0e, List.take_succ_cons, List.take_zero, List.drop_succ_cons, List.drop_zero, List.cons_append, List.nil_append, List.set_cons_zero, List.set_cons_succ, reduceCtorEq, fill, repl, opd, zdc, zc5, zfq, zfm, zd4, zgf, zbe, zf8, z9r, zhk, zbl, zf3, za3, zdy, finV, zcv, zgh, zbq, eqV, zii, z70, part, zh, Nat.reduceBEq, Nat.beq_eq, Bool.true_or, Bool.or_true] using this
          | false =>
            rw [ey] at fin
            simp only [S.z1d, S.z13, S.z0w, S.z18, S.z11, S.z0u, S.z12, zg, zd, zb, zf, List.getElem?_cons_zero, List.getElem?_cons_succ, Nat.zero_add, Nat.add_zero, zm, ze, Bool.and_false, Bool.true_and, Bool.not_true, Bool.not_false, Bool.false_or, Bool.or_self, Bool.and_self, zh, hcl, d3, d7, d5, ex, n2, dx, ey, n3]
            have := fin (decide (0 ≤ r.node w c.y)) (by cases decide (0 ≤ r.node w c.y) <;> rfl)
            simpa only [zj, z3a, zbg, z1t, zbh, z9n, zcu, zd8, zg, zd, Option.map_some, zb, z14, z2u, get_put', z8e, z9g, zf, z0s, z4e, H.next_new, H.next_put, List.getElem?_cons_zero, List.getElem?_cons_succ, Nat.zero_add, Nat.add_zero, Nat.reduceAdd, Nat.reduceLeDiff, Nat.reduceLT, Nat.reduceMul, Nat.reduceSub, Nat.reduceEqDiff, Int.reduceEq, Int.reduceLT, Int.reduceLE, Int.reduceNeg, z8m, zm, zer, zfi, zde, zhu, zbt, zfl, z9w, zhg, zbs, zfc, z9p, z9k, z6t, zbr, zb8, z9v, zd1, z88, zbj, z6s, zcy, z7w, zbb, z6v, z61, V.beq, V.beqs, z3c, ze, z04, z7v, asS, List.length_cons, List.length_nil, Nat.beq_refl, List.all_cons, List.all_nil, Bool.and_true, Bool.and_false, Bool.true_and, Bool.false_and, Bool.not_true, Bool.not_false, Bool.or_false, Bool.false_or, Bool.or_self, Bool.and_self, decide_true, decide_false, if_true, if_false, z0e, List.take_succ_cons, List.take_zero, List.drop_succ_cons, List.drop_zero, List.cons_append, List.nil_append, List.set_cons_zero, List.set_cons_succ, reduceCtorEq, fill, repl, opd, zdc, zc5, zfq, zfm, zd4, zgf, zbe, zf8, z9r, zhk, zbl, zf3, za3, zdy, finV, zcv, zgh, zbq, eqV, zii, z70, part, zh, Nat.reduceBEq, Nat.beq_eq, Bool.true_or, Bool.or_true] using this
theorem zti {h : H} (ok : h.ok) (M : MdAt k h.get B r) (I : RIn k r) {w : Int} (w0 : 0 ≤ w) (w1 : w < k.c) (hn : 0 ≤ r.node w c.h) (hf : 0 ≤ c.n ∧ c.n < ((r.fl (r.node w c.h)).length : Int)) :
    Ev (C 283 [.ptr B.b 0, .int .i64 w, .agg c.cs] h) fun z => z.1 = .bool (zxn r w c) ∧ Fr [] h z.2 := by
  refine z0i (af := F.z4s) (by kernel_rfl) rfl ?_
  have hcs : V.agg c.cs = .agg [.int .i64 c.kind, .int .i64 c.n, .int .u64 c.h, .int .u64 c.x, .int .u64 c.y] := rfl
  rw [hcs, S.zsm]
  simp only [S.z4s]
  have A := AskAt.new ok M c
  have F0 : Fr [] h (h.new (.cells [.int .i64 c.kind, .int .i64 c.n, .int .u64 c.h, .int .u64 c.x, .int .u64 c.y] .rw)) := (Fr.refl ok).new _
  generalize (h.new (.cells [.int .i64 c.kind, .int .i64 c.n, .int .u64 c.h, .int .u64 c.x, .int .u64 c.y] .rw)) = g at A F0 ⊢
  generalize h.next = q at A ⊢
  have hcl := A.cl
  have n1 := zcp A.M w c.h
  have n3 := zcp A.M w c.y
  rw [if_pos ⟨w0, w1⟩] at n1 n3
  have hfl := z043 A.M (r.node w c.h) c.n
  have hnl : r.node w c.h < r.F.length := by rcases I.node w c.h with e | e <;> omega
  have hfe : r.field (r.node w c.h) c.n = r.fat (r.node w c.h) c.n := by
    unfold RSt.field
    rw [if_pos ⟨hn, hnl, hf.1, hf.2⟩]
  rw [hfe] at hfl
  simp only [zd, zb, zf, List.getElem?_cons_zero, List.getElem?_cons_succ, zm, V.beq, z3c, ze, Bool.and_self, decide_true, zh, hcl, n1, hfl, n3]
  exact Ev.some ⟨rfl, F0⟩
end
theorem z003 : ∀ {l : List Int} {m : List V} {i : Nat} (q : Int) (v : V), i < l.length → l.length = m.length → z0e (z21 l m) (i * 2) [.int .u64 q, v] = z21 (l.set i q) (m.set i v)
  | [], _, i, _, _, h, _ => by simp at h
  | _ :: _, [], i, _, _, _, h => by simp at h
  | a :: l, b :: m, 0, q, v, _, _ => by simp [z21, z0e]
  | a :: l, b :: m, i + 1, q, v, h1, h2 => by
    have ih := z003 (l := l) (m := m) (i := i) q v (by simpa using h1) (by simpa using h2)
    rw [show (i + 1) * 2 = i * 2 + 2 from by omega]
    simp only [z21, List.set_cons_succ]
    rw [← ih]
    unfold z0e
    simp only [List.length_cons, List.length_nil, List.take_succ_cons, List.cons_append]
    congr 3
theorem zyi : ∀ {l : List Int} {m : List V} {i : Nat} (v : V), i < l.length → l.length = m.length → (z21 l m).set (i * 2 + 1) v = z21 l (m.set i v)
  | [], _, i, _, h, _ => by simp at h
  | _ :: _, [], i, _, _, h => by simp at h
  | a :: l, b :: m, 0, v, _, _ => by simp [z21]
  | a :: l, b :: m, i + 1, v, h1, h2 => by
    have ih := zyi (l := l) (m := m) (i := i) v (by simpa using h1) (by simpa using h2)
    rw [show (i + 1) * 2 + 1 = (i * 2 + 1) + 1 + 1 from by omega]
    simp only [z21, List.set_cons_succ]
    rw [ih]
theorem z01x {l : List Nat} (h : l.Nodup) {i j : Nat} {a : Nat} (h1 : l[i]? = some a) (h2 : l[j]? = some a) : i = j := by
  have q1 := z01 h1
  have q2 := z01 h2
  rw [List.getElem?_eq_getElem q1] at h1
  rw [List.getElem?_eq_getElem q2] at h2
  exact (List.getElem_inj (xs := l) h (i := i) (j := j) (h₀ := q1) (h₁ := q2)).mp (by rw [Option.some.inj h1, Option.some.inj h2])
section
variable {k : Cfg} {B : MdB} {r : RSt}
theorem MdAt.nbm {g : Nat → Option Blk} (M : MdAt k g B r) {i : Nat} {v : V} (h : B.ns[i]? = some v) {b : Nat} (hb : b ∈ v.blk) : b ∉ B.l :=
  M.nn b (by unfold MdB.nb; exact List.mem_flatten.mpr ⟨v.blk, List.mem_map.mpr ⟨v, List.mem_of_getElem? h, rfl⟩, hb⟩)
theorem MdAt.setField {g : H} (ok : g.ok) (M : MdAt k g.get B r) {n i : Nat} {l : List Int} (hl : r.F[n]? = some l) (hi2 : i < l.length) (val : Int) :
    ∃ bF v bi kk, za 1 B.xF (.int .i64 (n : Int)) = some (.ptr bF n) ∧ ldB (g.get bF) n = some v ∧ V.beq v v = true ∧ za 1 v (.int .i64 (i : Int)) = some (.ptr bi i) ∧ stB (g.get bi) i [.int .i64 val] = some (.cells ((l.set i val).map (.int .i64)) kk) ∧ bi ∈ B.l ∧ bi < g.next ∧
      MdAt k (g.put bi (some (.cells ((l.set i val).map (.int .i64)) kk))).get B { r with F := r.F.modify n fun l => l.set i val } := by
  have hn := z01 hl
  obtain ⟨d1, d2, d3, d4, d5, d6, d7, d8, d9⟩ := M.dist
  obtain ⟨f1, f2⟩ := M.fl
  obtain ⟨v, hv⟩ : ∃ v, B.vs[n]? = some v := ⟨_, List.getElem?_eq_getElem (by omega)⟩
  obtain ⟨bi, hbi⟩ : ∃ b, B.bs[n]? = some b := ⟨_, List.getElem?_eq_getElem (by omega)⟩
  obtain ⟨c, kk, rfl, hb, hk, hc⟩ := M.fr n v bi l hv hbi hl
  have hbm := List.mem_of_getElem? hbi
  have hbl : bi ∈ B.l := by simp [MdB.l, hbm]
  have hgF := M.fo
  obtain ⟨bF, hx, hbF⟩ : ∃ bF, B.xF = .sl bF 0 B.vs.length (.op 1) ∧ g.get bF = some (.cells B.vs (.gr 1)) := by
    obtain ⟨hx, h0⟩ | ⟨bF, m, hx, hm, hb⟩ := hgF
    · rw [h0] at f1; simp at f1; omega
    · rw [Nat.mul_one] at hm; rw [hm]; exact ⟨bF, hx, hb⟩
  have ne : ∀ b, b ≠ bi → (g.put bi (some (.cells ((l.set i val).map (.int .i64)) kk))).get b = g.get b := fun b h => z1e h
  refine ⟨bF, .sl bi 0 l.length c, bi, kk, ?_, ?_, z0ah _ _ _ _, zu hi2, ?_, hbl, ok.lt hb, ?_⟩
  · rw [hx]; exact zu (by omega)
  · rw [hbF, zf, hv]; rfl
  · rw [z06u hb hk (by rw [List.length_map]; exact hi2) rfl, z0bw]
  · refine ⟨M.nd, M.nn, by rw [ne _ (fun e => d1 (by rw [e]; simp [hbm]))]; exact M.own, M.fo.congr fun b hb => ne b (fun e => d9 b hb (e ▸ hbm)), ⟨by rw [List.length_modify]; exact f1, by rw [List.length_modify]; exact f2⟩, fun j u b m h1 h2 h3 => ?_, by rw [ne _ (fun e => d2 (by rw [e]; simp [hbm]))]; exact M.ho, M.hl, fun j m' hm' => by rw [ne _ (fun e => d7 m' (List.mem_of_getElem? hm') (by rw [e]; simp [hbm]))]; exact M.hm j m' hm', by rw [ne _ (fun e => d3 (by rw [e]; simp [hbm]))]; exact M.wo, M.wl, fun j u m h1 h2 => (M.wr j u m h1 h2).congr fun b hb => ne b (fun e => M.nbm h1 hb (by rw [e]; exact hbl)), by rw [ne _ (fun e => d4 (by rw [e]; simp [hbm]))]; exact M.gv⟩
    rcases z02q h3 with ⟨e, m', h5, h6⟩ | ⟨e, h5⟩
    · subst e
      rw [hv] at h1; rw [hbi] at h2; rw [hl] at h5
      cases h1; cases h2; cases h5
      exact ⟨c, kk, by rw [h6, List.length_set], by rw [z0a, h6], hk, by rw [h6, List.length_set]; exact hc⟩
    · obtain ⟨c', kk', e1, e2, e3⟩ := M.fr j u b m h1 h2 h5
      exact ⟨c', kk', e1, by rw [ne b (fun q => e (z01x d8 hbi (q ▸ h2)))]; exact e2, e3⟩
theorem MdAt.del {g : H} (ok : g.ok) (M : MdAt k g.get B r) (I : RIn k r) {w : Int} (w0 : 0 ≤ w) (w1 : w < k.c) (q : Int) :
    ∃ (i m : Nat), za 1 (.sl B.bh 0 k.C (.op 1)) (.int .i64 w) = some (.ptr B.bh i) ∧ ldB (g.get B.bh) i = some (.map m) ∧ ∃ g', g.mapDel .int (.map m) (.int .u64 q) = some g' ∧ Fr B.l g g' ∧ MdAt k g'.get B { r with Hs := r.Hs.filter fun x => !(x.is w q) } := by
  obtain ⟨i, m, rfl, hm, i1, l1, e1⟩ := M.map w0 w1
  obtain ⟨d1, d2, d3, d4, d5, d6, d7, d8, d9⟩ := M.dist
  have hmm : m ∈ B.ms := List.mem_of_getElem? hm
  have hs : g.mapDel .int (.map m) (.int .u64 q) = some (g.put m (some (.map (z2b (r.Hs.filter fun x => !(x.is (i : Int) q)) i)))) := by
    simp only [H.mapDel, zne, e1]
    rw [zxa _ _ _ I.nd]
  have ne : ∀ b, b ≠ m → (g.put m (some (.map (z2b (r.Hs.filter fun x => !(x.is (i : Int) q)) i)))).get b = g.get b := fun b h => z1e h
  refine ⟨i, m, i1, l1, _, hs, (Fr.refl ok).put (.inl (by simp [MdB.l, hmm])) (ok.lt e1) _, M.nd, M.nn, by rw [ne _ (fun e => d1 (by rw [e]; simp [hmm]))]; exact M.own, M.fo.congr fun b hb => ne b (fun e => d7 m hmm (by rw [← e]; simp [hb])), M.fl, fun j v b l h1 h2 h3 => ?_, by rw [ne _ (fun e => d2 (by rw [e]; simp [hmm]))]; exact M.ho, M.hl, fun j m' hm' => ?_, by rw [ne _ (fun e => d3 (by rw [e]; simp [hmm]))]; exact M.wo, M.wl, fun j v l h1 h2 => (M.wr j v l h1 h2).congr fun b hb => ne b (fun e => M.nbm h1 hb (by rw [e]; simp [MdB.l, hmm])), by rw [ne _ (fun e => d4 (by rw [e]; simp [hmm]))]; exact M.gv⟩
  · obtain ⟨c, kk, e, hb, rr⟩ := M.fr j v b l h1 h2 h3
    exact ⟨c, kk, e, by rw [ne b (fun e => d7 m hmm (by rw [← e]; simp [List.mem_of_getElem? h2]))]; exact hb, rr⟩
  · by_cases hji : j = i
    · subst hji
      rw [hm] at hm'
      cases hm'
      exact z0a _ _ _
    · have hne : m' ≠ m := fun e => hji (z01x d5 (e ▸ hm') hm)
      rw [ne m' hne, M.hm j m' hm']
      have : z2b (r.Hs.filter fun x => !(x.is (i : Int) q)) j = z2b r.Hs j := by
        unfold z2b
        rw [List.filter_filter]
        congr 1
        apply List.filter_congr
        intro x _
        by_cases hx : x.c = (j : Int)
        · have : x.is (i : Int) q = false := by unfold HoldR.is; rw [hx]; simp; omega
          rw [this]; simp
        · simp [hx]
      rw [this]
theorem MdAt.setWalk {g : H} (ok : g.ok) (M : MdAt k g.get B r) {i : Nat} (hi : i < k.C) (q : Int) {v : V} {l : List Int} (R : RowO .i64 g.get v l) (hv : ∀ b ∈ v.blk, b ∉ B.l) :
    stB (g.get B.bw) (i * 2) [.int .u64 q, v] = some (.cells (z21 (r.Wk.set i q) (B.ns.set i v)) B.kb) ∧ MdAt k (g.put B.bw (some (.cells (z21 (r.Wk.set i q) (B.ns.set i v)) B.kb))).get { B with ns := B.ns.set i v } { r with Wk := r.Wk.set i q, Cm := r.Cm.set i l } := by
  obtain ⟨d1, d2, d3, d4, d5, d6, d7, d8, d9⟩ := M.dist
  obtain ⟨w1, w2, w3⟩ := M.wl
  have hlen : (z21 r.Wk B.ns).length = k.C * 2 := by rw [zmg (by omega), w1]
  have ov := R.slv.one
  constructor
  · have h1 : decide (B.kb = Bk.ro) = false := B.kb_ro
    have h2 : [V.int .u64 q, v].all V.one = true := by simp only [List.all_cons, List.all_nil, ov]; rfl
    have h3 : decide (i * 2 + [V.int .u64 q, v].length ≤ (z21 r.Wk B.ns).length) = true := decide_eq_true (by rw [hlen]; show i * 2 + 2 ≤ _; omega)
    rw [M.wo, z4e, h1, h2, h3]
    show some (Blk.cells (z0e _ _ _) _) = _
    rw [z003 q v (by omega) (by omega)]
  · have ne : ∀ b, b ≠ B.bw → (g.put B.bw (some (.cells (z21 (r.Wk.set i q) (B.ns.set i v)) B.kb))).get b = g.get b := fun b h => z1e h
    have hbw : B.bw ∈ B.l := by simp [MdB.l]
    refine ⟨M.nd, ?_, by rw [ne _ (fun e => d1 (by rw [e]; simp))]; exact M.own, M.fo.congr fun b hb => ne b (fun e => d3 (by rw [← e]; simp [hb])), M.fl, fun j u b m h1 h2 h3 => ?_, by rw [ne _ (fun e => d2 (by rw [e]; simp))]; exact M.ho, M.hl, fun j m' hm' => by rw [ne _ (fun e => d3 (by rw [← e]; simp [List.mem_of_getElem? hm']))]; exact M.hm j m' hm', z0a _ _ _, ⟨by rw [List.length_set]; exact w1, by rw [List.length_set]; exact w2, by rw [List.length_set]; exact w3⟩, fun j u m h1 h2 => ?_, by rw [ne _ (fun e => d3 (by rw [← e]; simp))]; exact M.gv⟩
    · intro b hb
      unfold MdB.nb at hb
      obtain ⟨lb, h1, h2⟩ := List.mem_flatten.mp hb
      obtain ⟨u, h3, rfl⟩ := List.mem_map.mp h1
      rcases zid h3 with rfl | h3
      · exact hv b h2
      · exact M.nn b (by unfold MdB.nb; exact List.mem_flatten.mpr ⟨u.blk, List.mem_map.mpr ⟨u, h3, rfl⟩, h2⟩)
    · obtain ⟨c, kk, e, hb, rr⟩ := M.fr j u b m h1 h2 h3
      exact ⟨c, kk, e, by rw [ne b (fun e => d3 (by rw [← e]; simp [List.mem_of_getElem? h2]))]; exact hb, rr⟩
    · rcases z00g h1 with ⟨rfl, rfl⟩ | ⟨hne, h1⟩
      · rcases z00g h2 with ⟨_, rfl⟩ | ⟨hne, _⟩
        · exact R.congr fun b hb => ne b (fun e => hv b hb (by rw [e]; exact hbw))
        · exact absurd rfl hne
      · rcases z00g h2 with ⟨e, _⟩ | ⟨_, h2⟩
        · exact absurd e hne
        · exact (M.wr j u m h1 h2).congr fun b hb => ne b (fun e => M.nbm h1 hb (by rw [e]; exact hbw))
theorem MdAt.give {g : H} (ok : g.ok) (M : MdAt k g.get B r) {q : Int} (hq : r.Gv.contains q = false) :
    ∃ g', g.mapSet .int (.map B.gm) (.int .u64 q) (.int .i64 1) = some g' ∧ Fr B.l g g' ∧ g'.next = g.next ∧ MdAt k g'.get B { r with Gv := r.Gv ++ [q] } := by
  obtain ⟨d1, d2, d3, d4, d5, d6, d7, d8, d9⟩ := M.dist
  have hs1 : g.mapSet .int (.map B.gm) (.int .u64 q) (.int .i64 1) = some (g.put B.gm (some (.map (z5f (r.Gv ++ [q]))))) := by
    simp only [H.mapSet, zne, M.gv]
    rw [zqm (k := .int .u64 q) (.int .i64 1) (by rw [zki, hq]; rfl)]
    unfold z5f
    rw [List.map_append]; rfl
  have ne : ∀ b, b ≠ B.gm → (g.put B.gm (some (.map (z5f (r.Gv ++ [q]))))).get b = g.get b := fun b h => z1e h
  refine ⟨_, hs1, (Fr.refl ok).put (.inl (by simp [MdB.l])) (ok.lt M.gv) _, rfl, M.nd, M.nn, by rw [ne _ (fun e => d1 (by rw [e]; simp))]; exact M.own, M.fo.congr fun b hb => ne b (fun e => d4 (by rw [← e]; simp [hb])), M.fl, fun j v b l h1 h2 h3 => ?_, by rw [ne _ (fun e => d2 (by rw [e]; simp))]; exact M.ho, M.hl, fun j m' hm' => by rw [ne _ (fun e => d4 (by rw [← e]; simp [List.mem_of_getElem? hm']))]; exact M.hm j m' hm', by rw [ne _ (fun e => d3 (by rw [e]; simp))]; exact M.wo, M.wl, fun j v l h1 h2 => (M.wr j v l h1 h2).congr fun b hb => ne b (fun e => M.nbm h1 hb (by rw [e]; simp [MdB.l])), z0a _ _ _⟩
  obtain ⟨c, kk, e, hb, rr⟩ := M.fr j v b l h1 h2 h3
  exact ⟨c, kk, e, by rw [ne b (fun e => d4 (by rw [← e]; simp [List.mem_of_getElem? h2]))]; exact hb, rr⟩
theorem MdAt.newNode {g : H} (ok : g.ok) (M : MdAt k g.get B r) {n b1 : Nat} (hb1 : g.get b1 = some (.cells ((List.replicate n (-1)).map (.int .i64)) .rw)) (hn1 : b1 ∉ B.l) (hn2 : b1 ∉ B.nb) (hF : r.F.length ≤ 100000) :
    ∃ x' g2, (g.new (.cells [.sl b1 0 n (.ex n)] .rw)).append 1 24 B.xF (.sl g.next 0 1 (.ex 1)) = some (x', g2) ∧ g2.get B.b = g.get B.b ∧ x'.one = true ∧ x'.cells = [x'] ∧ B.b < g2.next ∧
      let g3 := g2.put B.b (some (.cells [.int .i64 k.s, .int .i64 k.a, .int .i64 k.c, .int .i64 k.hd, .int .i64 k.g, .int .i64 k.st, x', .sl B.bh 0 k.C (.op 1), .sl B.bw 0 k.C (B.cw k.C), .map B.gm] .rw))
      Fr B.l g g3 ∧ MdAt k g3.get { B with xF := x', vs := B.vs ++ [.sl b1 0 n (.ex n)], bs := B.bs ++ [b1] } { r with F := r.F ++ [List.replicate n (-1)] } ∧ ∀ b ∈ x'.blk, g.next ≤ b := by
  obtain ⟨d1, d2, d3, d4, d5, d6, d7, d8, d9⟩ := M.dist
  have Fa : Fr [] g (g.new (.cells [.sl b1 0 n (.ex n)] .rw)) := (Fr.refl ok).new _
  obtain ⟨f1, f2⟩ := M.fl
  obtain ⟨x', g2, e2, F2, G2, hx', hne⟩ := Grown.push Fa.ok (bytes := 24) (M.fo.fr ok Fa (by simp)) (zp g _) (e := 1) rfl rfl (by decide) ⟨by decide, by decide⟩ (by omega)
  have F02 : Fr B.xF.blk g g2 := (Fa.mono (by simp)).trans' F2
  have hxm : ∀ b ∈ B.xF.blk, b ∈ B.l := fun b hb => by simp [MdB.l, hb]
  have hxn : ∀ b ∈ x'.blk, g.next ≤ b := fun b hb => Nat.le_trans Fa.le (hx' b hb)
  have hbx : B.b ∉ B.xF.blk := fun q => d1 (by simp [q])
  have hbg : g2.get B.b = g.get B.b := F02.same _ (ok.lt M.own) hbx
  have hbl2 : B.b < g2.next := F02.lt (ok.lt M.own)
  have F23 : Fr [B.b] g2 (g2.put B.b (some (.cells [.int .i64 k.s, .int .i64 k.a, .int .i64 k.c, .int .i64 k.hd, .int .i64 k.g, .int .i64 k.st, x', .sl B.bh 0 k.C (.op 1), .sl B.bw 0 k.C (B.cw k.C), .map B.gm] .rw))) := (Fr.refl F2.ok).put (.inl (by simp)) hbl2 _
  have hb1l : b1 < g.next := ok.lt hb1
  have lt : ∀ b ∈ B.l, b < g.next := by
    intro b hb
    simp only [MdB.l, List.mem_cons, List.mem_append] at hb
    rcases hb with rfl | rfl | rfl | rfl | hb | hb | hb
    · exact ok.lt M.own
    · exact ok.lt M.ho
    · exact ok.lt M.wo
    · exact ok.lt M.gv
    · obtain ⟨i, hi⟩ := List.mem_iff_getElem?.mp hb
      exact ok.lt (M.hm i b hi)
    · exact M.fo.lt ok b hb
    · obtain ⟨i, hi⟩ := List.mem_iff_getElem?.mp hb
      have := z01 hi
      obtain ⟨v, hv⟩ : ∃ v, B.vs[i]? = some v := ⟨_, List.getElem?_eq_getElem (by omega)⟩
      obtain ⟨l, hl⟩ : ∃ l, r.F[i]? = some l := ⟨_, List.getElem?_eq_getElem (by omega)⟩
      obtain ⟨c, kk, _, hb, _⟩ := M.fr i v b l hv hi hl
      exact ok.lt hb
  have ne : ∀ b, b < g.next → b ≠ B.b → b ∉ B.xF.blk → (g2.put B.b (some (.cells [.int .i64 k.s, .int .i64 k.a, .int .i64 k.c, .int .i64 k.hd, .int .i64 k.g, .int .i64 k.st, x', .sl B.bh 0 k.C (.op 1), .sl B.bw 0 k.C (B.cw k.C), .map B.gm] .rw))).get b = g.get b := fun b h1 h2 h3 => by
    rw [z1e h2, F02.same b h1 h3]
  have hb1b : b1 ≠ B.b := fun e => hn1 (by rw [e]; simp [MdB.l])
  have hb1x : b1 ∉ B.xF.blk := fun q => hn1 (hxm b1 q)
  refine ⟨x', g2, e2, hbg, G2.slv.one, G2.slv.cells, hbl2, ?_⟩
  show Fr B.l g (g2.put B.b (some (.cells [.int .i64 k.s, .int .i64 k.a, .int .i64 k.c, .int .i64 k.hd, .int .i64 k.g, .int .i64 k.st, x', .sl B.bh 0 k.C (.op 1), .sl B.bw 0 k.C (B.cw k.C), .map B.gm] .rw))) ∧ MdAt k (g2.put B.b (some (.cells [.int .i64 k.s, .int .i64 k.a, .int .i64 k.c, .int .i64 k.hd, .int .i64 k.g, .int .i64 k.st, x', .sl B.bh 0 k.C (.op 1), .sl B.bw 0 k.C (B.cw k.C), .map B.gm] .rw))).get { B with xF := x', vs := B.vs ++ [.sl b1 0 n (.ex n)], bs := B.bs ++ [b1] } { r with F := r.F ++ [List.replicate n (-1)] } ∧ _
  refine ⟨(F02.mono (fun b hb => .inl (hxm b hb))).trans F23 (fun b hb => .inl (by simp only [List.mem_singleton] at hb; rw [hb]; simp [MdB.l])), ?_, hxn⟩
  have nxl : ∀ b ∈ x'.blk, b ∉ B.l := fun b hb q => by have := hxn b hb; have := lt b q; omega
  -- the one block of a row that grew
  have hx1 : x'.blk.Nodup := by
    rcases G2 with ⟨e, _⟩ | ⟨b, n', e, _⟩
    · rw [e]; simp [V.blk]
    · rw [e]; simp [V.blk]
  have key : ∀ b, b ∈ (x'.blk ++ (B.bs ++ [b1])) → b ∈ x'.blk ∨ b ∈ B.bs ∨ b = b1 := fun b hb => by
    simpa [List.mem_append] using hb
  have notIn : ∀ b, b ∈ B.l → b ∉ B.bs → b ∉ x'.blk ++ (B.bs ++ [b1]) := fun b h1 h2 q => by
    rcases key b q with q | q | q
    · exact nxl b q h1
    · exact h2 q
    · exact hn1 (q ▸ h1)
  refine ⟨?_, ?_, z0a _ _ _, ?_, ⟨by rw [List.length_append, List.length_append, f1]; rfl, by rw [List.length_append, List.length_append, f2]; rfl⟩, ?_, ?_, M.hl, ?_, ?_, M.wl, ?_, ?_⟩
  · show (B.b :: B.bh :: B.bw :: B.gm :: (B.ms ++ (x'.blk ++ (B.bs ++ [b1])))).Nodup
    have mb : B.b ∈ B.l := by simp [MdB.l]
    have mh : B.bh ∈ B.l := by simp [MdB.l]
    have mw : B.bw ∈ B.l := by simp [MdB.l]
    have mg : B.gm ∈ B.l := by simp [MdB.l]
    have h1 : B.b ∉ x'.blk ++ (B.bs ++ [b1]) := notIn _ mb fun q => d1 (by simp [q])
    have h2 : B.bh ∉ x'.blk ++ (B.bs ++ [b1]) := notIn _ mh fun q => d2 (by simp [q])
    have h3 : B.bw ∉ x'.blk ++ (B.bs ++ [b1]) := notIn _ mw fun q => d3 (by simp [q])
    have h4 : B.gm ∉ x'.blk ++ (B.bs ++ [b1]) := notIn _ mg fun q => d4 (by simp [q])
    rw [List.nodup_cons, List.nodup_cons, List.nodup_cons, List.nodup_cons, List.nodup_append, List.nodup_append, List.nodup_append]
    refine ⟨?_, ?_, ?_, ?_, d5, ⟨hx1, ⟨d8, by simp, ?_⟩, ?_⟩, ?_⟩
    · intro q
      rcases List.mem_cons.mp q with q | q
      · exact d1 (by rw [q]; simp)
      rcases List.mem_cons.mp q with q | q
      · exact d1 (by rw [q]; simp)
      rcases List.mem_cons.mp q with q | q
      · exact d1 (by rw [q]; simp)
      rcases List.mem_append.mp q with q | q
      · exact d1 (by simp [q])
      · exact h1 q
    · intro q
      rcases List.mem_cons.mp q with q | q
      · exact d2 (by rw [q]; simp)
      rcases List.mem_cons.mp q with q | q
      · exact d2 (by rw [q]; simp)
      rcases List.mem_append.mp q with q | q
      · exact d2 (by simp [q])
      · exact h2 q
    · intro q
      rcases List.mem_cons.mp q with q | q
      · exact d3 (by rw [q]; simp)
      rcases List.mem_append.mp q with q | q
      · exact d3 (by simp [q])
      · exact h3 q
    · intro q
      rcases List.mem_append.mp q with q | q
      · exact d4 (by simp [q])
      · exact h4 q
    · intro u hu v hv e
      simp only [List.mem_singleton] at hv
      exact hn1 (by rw [← hv, ← e]; simp [MdB.l, hu])
    · intro u hu v hv e
      have : v ∈ B.bs ∨ v = b1 := by simpa using hv
      rcases this with q | q
      · exact nxl u hu (by rw [e]; simp [MdB.l, q])
      · have h1 := hxn u hu
        rw [e, q] at h1; omega
    · intro u hu v hv e
      exact notIn u (by simp [MdB.l, hu]) (fun q => d7 u hu (by simp [q])) (by rw [e]; exact hv)
  · intro b hb q
    have hb' : b ∈ B.nb := hb
    have q' : b ∈ B.b :: B.bh :: B.bw :: B.gm :: (B.ms ++ (x'.blk ++ (B.bs ++ [b1]))) := q
    have hblt : b < g.next := by
      unfold MdB.nb at hb'
      obtain ⟨lb, h1, h2⟩ := List.mem_flatten.mp hb'
      obtain ⟨u, h3, rfl⟩ := List.mem_map.mp h1
      obtain ⟨i, hi⟩ := List.mem_iff_getElem?.mp h3
      have := z01 hi
      obtain ⟨w1, w2, w3⟩ := M.wl
      obtain ⟨l, hl⟩ : ∃ l, r.Cm[i]? = some l := ⟨_, List.getElem?_eq_getElem (by omega)⟩
      exact (M.wr i u l hi hl).lt ok b h2
    have hno := M.nn b hb'
    simp only [List.mem_cons, List.mem_append, List.not_mem_nil, or_false] at q'
    rcases q' with q | q | q | q | q | q | q | q
    · exact hno (by rw [q]; simp [MdB.l])
    · exact hno (by rw [q]; simp [MdB.l])
    · exact hno (by rw [q]; simp [MdB.l])
    · exact hno (by rw [q]; simp [MdB.l])
    · exact hno (by simp [MdB.l, q])
    · have := hxn b q; omega
    · exact hno (by simp [MdB.l, q])
    · exact hn2 (q ▸ hb')
  · exact G2.congr fun b hb => z1e (fun e => nxl b hb (by rw [e]; simp [MdB.l]))
  · intro i v b l h1 h2 h3
    have h1' : (B.vs ++ [V.sl b1 0 n (.ex n)])[i]? = some v := h1
    have h2' : (B.bs ++ [b1])[i]? = some b := h2
    have h3' : (r.F ++ [List.replicate n (-1 : Int)])[i]? = some l := h3
    by_cases hi : i < r.F.length
    · rw [List.getElem?_append_left (by omega)] at h1' h2' h3'
      obtain ⟨c, kk, e, hb, rr⟩ := M.fr i v b l h1' h2' h3'
      have hbm := List.mem_of_getElem? h2'
      exact ⟨c, kk, e, by rw [ne b (ok.lt hb) (fun e => d1 (by rw [← e]; simp [hbm])) (fun q => d9 b q hbm)]; exact hb, rr⟩
    · have hie : i = r.F.length := by
        have := z01 h3'
        rw [List.length_append, List.length_singleton] at this
        omega
      subst hie
      rw [← f1, List.getElem?_append_right (Nat.le_refl _), Nat.sub_self] at h1'
      rw [← f2, List.getElem?_append_right (Nat.le_refl _), Nat.sub_self] at h2'
      rw [List.getElem?_append_right (Nat.le_refl _), Nat.sub_self] at h3'
      cases h1'; cases h2'; cases h3'
      exact ⟨.ex n, .rw, by rw [List.length_replicate], by rw [ne b1 hb1l hb1b hb1x]; exact hb1, by simp, .inr ⟨n, rfl, by rw [List.length_replicate]; exact Nat.le_refl _⟩⟩
  · rw [ne _ (lt _ (by simp [MdB.l])) (fun e => d1 (by rw [← e]; simp)) (fun q => d2 (by simp [q]))]; exact M.ho
  · intro i m hm
    have hmm : m ∈ B.ms := List.mem_of_getElem? hm
    rw [ne _ (lt _ (by simp [MdB.l, hmm])) (fun e => d1 (by rw [← e]; simp [hmm])) (fun q => d7 m hmm (by simp [q]))]
    exact M.hm i m hm
  · rw [ne _ (lt _ (by simp [MdB.l])) (fun e => d1 (by rw [← e]; simp)) (fun q => d3 (by simp [q]))]; exact M.wo
  · intro i v l h1 h2
    have R := M.wr i v l h1 h2
    exact R.congr fun b hb => ne b (R.lt ok b hb) (fun e => M.nbm h1 hb (by rw [e]; simp [MdB.l])) (fun q => M.nbm h1 hb (hxm b q))
  · rw [ne _ (lt _ (by simp [MdB.l])) (fun e => d1 (by rw [← e]; simp)) (fun q => d4 (by simp [q]))]; exact M.gv
end
structure MdB.ext (B B' : MdB) (h : H) : Prop where
  b : B'.b = B.b
  l : ∀ x ∈ B'.l, x ∈ B.l ∨ h.next ≤ x
  n : ∀ x ∈ B'.nb, x ∈ B.nb ∨ h.next ≤ x
theorem MdB.ext.refl (B : MdB) (h : H) : B.ext B h := ⟨rfl, fun _ q => .inl q, fun _ q => .inl q⟩
theorem MdB.ext.up {B B' : MdB} {h h' : H} (E : B.ext B' h') (le : h.next ≤ h'.next) : B.ext B' h := ⟨E.b, fun x q => (E.l x q).imp id fun w => by omega, fun x q => (E.n x q).imp id fun w => by omega⟩
section
variable {k : Cfg} {B : MdB} {r : RSt} {c : CallR} {a : AnsR}
theorem MdAt.lt {g : H} (M : MdAt k g.get B r) (ok : g.ok) : ∀ b ∈ B.l, b < g.next := by
  intro b hb
  obtain ⟨f1, f2⟩ := M.fl
  simp only [MdB.l, List.mem_cons, List.mem_append] at hb
  rcases hb with rfl | rfl | rfl | rfl | hb | hb | hb
  · exact ok.lt M.own
  · exact ok.lt M.ho
  · exact ok.lt M.wo
  · exact ok.lt M.gv
  · obtain ⟨i, hi⟩ := List.mem_iff_getElem?.mp hb
    exact ok.lt (M.hm i b hi)
  · exact M.fo.lt ok b hb
  · obtain ⟨i, hi⟩ := List.mem_iff_getElem?.mp hb
    have := z01 hi
    obtain ⟨v, hv⟩ : ∃ v, B.vs[i]? = some v := ⟨_, List.getElem?_eq_getElem (by omega)⟩
    obtain ⟨l, hl⟩ : ∃ l, r.F[i]? = some l := ⟨_, List.getElem?_eq_getElem (by omega)⟩
    obtain ⟨c, kk, _, hb, _⟩ := M.fr i v b l hv hi hl
    exact ok.lt hb
theorem MdAt.ltn {g : H} (M : MdAt k g.get B r) (ok : g.ok) : ∀ b ∈ B.nb, b < g.next := by
  intro b hb
  unfold MdB.nb at hb
  obtain ⟨lb, h1, h2⟩ := List.mem_flatten.mp hb
  obtain ⟨u, h3, rfl⟩ := List.mem_map.mp h1
  obtain ⟨i, hi⟩ := List.mem_iff_getElem?.mp h3
  have := z01 hi
  obtain ⟨w1, w2, w3⟩ := M.wl
  obtain ⟨l, hl⟩ : ∃ l, r.Cm[i]? = some l := ⟨_, List.getElem?_eq_getElem (by omega)⟩
  exact (M.wr i u l hi hl).lt ok b h2
structure DnAt (k : Cfg) (B : MdB) (r : RSt) (c : CallR) (a : AnsR) (g : H) (q pa : Nat) : Prop where
  A : AskAt k B r c g q
  an : g.get pa = some (.cells [.int .i64 a.err, .int .u64 a.h, .bool a.yes] .rw)
  no : q ∉ B.l ∧ pa ∉ B.l
theorem DnAt.fr {g g' : H} {q pa : Nat} (D : DnAt k B r c a g q pa) (F : Fr [] g g') : DnAt k B r c a g' q pa := ⟨D.A.fr F, F.get D.A.ok D.an (by simp), D.no⟩
def SwM (k : Cfg) (B : MdB) (g : H) (r' : RSt) (z : AX × List V × H) : Prop := z.1 = .normal ∧ z.2.1 = S.z0d ∧ Fr B.l g z.2.2 ∧ ∃ B', MdAt k z.2.2.get B' r' ∧ B.ext B' g
theorem z0aw {g : H} {q pa : Nat} (D : DnAt k B r c a g q pa) (I : RIn k r) (hF : r.F.length ≤ 100000) (hk : c.kind = 1) {w nh : Int} (w0 : 0 ≤ w) (w1 : w < k.c) {n : Nat} (hcn : c.n = (n : Int)) (hn : n ≤ 8) (hf : r.Gv.contains a.h = false) (gv ys : Bool) :
    Ev (S.z07 W (.ptr B.b 0) w (.ptr q 0) (.ptr pa 0) nh gv ys g) (SwM k B g (z4c r w c a)) := by
  have hd : z4c r w c a = ({ r with F := r.F ++ [List.replicate n (-1)] } : RSt).gives w a.h r.F.length := by
    unfold z4c; rw [hk, hcn]; simp
  rw [hd]
  have ok := D.A.ok
  have M := D.A.M
  have hcl := D.A.cl
  rw [hk, hcn] at hcl
  have l6 := M.l6
  have F8 : Fr [] g (g.new (.cells [.int .i64 (-1)] .rw)) := (Fr.refl ok).new _
  obtain ⟨⟨v, g9⟩, e9, F9, rfl, hb9⟩ := z06c F8.ok (zp g _) hn
  dsimp only at F9 hb9
  have hn8 : (g.new (.cells [.int .i64 (-1)] .rw)).next = g.next + 1 := rfl
  rw [hn8] at e9 hb9
  have F09 : Fr [] g g9 := F8.trans' F9
  have M9 := M.fr0 ok F09
  have l69 := M9.l6
  have hlt := M.lt ok
  have hltn := M.ltn ok
  obtain ⟨x', g2, e2, hbg, ox, ox2, hbl, F3, M3, hx⟩ := M9.newNode F09.ok hb9 (fun q => by have := hlt _ q; omega) (fun q => by have := hltn _ q; omega) hF
  have oxF := M.fo.slv.beq
  have own9 := M9.own
  have hbown : g2.get B.b = some (.cells [.int .i64 k.s, .int .i64 k.a, .int .i64 k.c, .int .i64 k.hd, .int .i64 k.g, .int .i64 k.st, B.xF, .sl B.bh 0 k.C (.op 1), .sl B.bw 0 k.C (B.cw k.C), .map B.gm] .rw) := hbg.trans own9
  have oF1 := M.fo.slv.one
  have I1 := I.newF n
  have hpa3 : ((g2.put B.b (some (.cells [.int .i64 k.s, .int .i64 k.a, .int .i64 k.c, .int .i64 k.hd, .int .i64 k.g, .int .i64 k.st, x', .sl B.bh 0 k.C (.op 1), .sl B.bw 0 k.C (B.cw k.C), .map B.gm] .rw)))).get pa = some (.cells [.int .i64 a.err, .int .u64 a.h, .bool a.yes] .rw) := F3.get F09.ok (F09.get ok D.an (by simp)) D.no.2
  have npb : ¬ pa = B.b := fun e => D.no.2 (by rw [e]; simp [MdB.l])
  have hpa2 : g2.get pa = some (.cells [.int .i64 a.err, .int .u64 a.h, .bool a.yes] .rw) := by rw [z1e npb] at hpa3; exact hpa3
  have hxl : lenSl x' = some (r.F.length + 1) := by
    have := M3.rows.len
    have h2 : (r.F ++ [List.replicate n (-1 : Int)]).length = r.F.length + 1 := by rw [List.length_append]; rfl
    have h3 : lenSl x' = some (r.F ++ [List.replicate n (-1 : Int)]).length := this
    rw [h2] at h3; exact h3
  have wl : wr .i64 (((r.F.length + 1 : Nat) : Int) - 1) = ((r.F.length : Nat) : Int) := by
    rw [wr64 (by omega) (by omega)]; omega
  obtain ⟨g4, e4, F4, M4, hn4⟩ := zt9 F3.ok M3 I1 (w := w) (q := a.h) (n := (r.F.length : Nat)) w0 w1 hf
  dsimp only at e4
  have d1 : decide ((1 : Int) = 1) = true := rfl
  simp only [S.z07, zj, zg, zd, Option.map_some, zb, z2u, get_put', zf, z4e, List.getElem?_cons_zero, List.getElem?_cons_succ, Nat.zero_add, Nat.add_zero, Nat.reduceAdd, Nat.reduceLeDiff, Int.reduceNeg, zm, z3c, ze, List.length_cons, List.length_nil, Nat.beq_refl, List.all_cons, List.all_nil, Bool.and_true, Bool.not_true, Bool.or_self, Bool.and_self, decide_true, decide_false, if_true, if_false, z0e, List.take_succ_cons, List.take_zero, List.drop_succ_cons, List.drop_zero, List.cons_append, List.nil_append, reduceCtorEq, fill, repl, opd, zgf, zh, zj, hcl, l6, e9, l69, oxF, e2, hbown, ox, ox2, npb, hpa2, hxl, wl, e4]
  have F4' : Fr B.l g g4 := by
    refine ((F09.mono (by simp)).trans F3 (fun b hb => .inl hb)).trans F4 (fun b hb => ?_)
    have hb' : b ∈ B.b :: B.bh :: B.bw :: B.gm :: (B.ms ++ (x'.blk ++ (B.bs ++ [g.next + 1]))) := hb
    simp only [List.mem_cons, List.mem_append, List.not_mem_nil, or_false] at hb'
    have hge := F09.le
    rcases hb' with e | e | e | e | e | e | e | e
    · exact .inl (by rw [e]; simp [MdB.l])
    · exact .inl (by rw [e]; simp [MdB.l])
    · exact .inl (by rw [e]; simp [MdB.l])
    · exact .inl (by rw [e]; simp [MdB.l])
    · exact .inl (by simp [MdB.l, e])
    · exact .inr (by have := hx b e; omega)
    · exact .inl (by simp [MdB.l, e])
    · exact .inr (by omega)
  refine Ev.some ⟨rfl, rfl, F4', _, M4, rfl, fun b hb => ?_, fun b hb => .inl hb⟩
  have hb' : b ∈ B.b :: B.bh :: B.bw :: B.gm :: (B.ms ++ (x'.blk ++ (B.bs ++ [g.next + 1]))) := hb
  simp only [List.mem_cons, List.mem_append, List.not_mem_nil, or_false] at hb'
  have hge := F09.le
  rcases hb' with e | e | e | e | e | e | e | e
  · exact .inl (by rw [e]; simp [MdB.l])
  · exact .inl (by rw [e]; simp [MdB.l])
  · exact .inl (by rw [e]; simp [MdB.l])
  · exact .inl (by rw [e]; simp [MdB.l])
  · exact .inl (by simp [MdB.l, e])
  · exact .inr (by have := hx b e; omega)
  · exact .inl (by simp [MdB.l, e])
  · exact .inr (by omega)
theorem SwM.same {g : H} (M : MdAt k g.get B r) (ok : g.ok) : SwM k B g r (.normal, S.z0d, g) := ⟨rfl, rfl, .refl ok, B, M, .refl B g⟩
theorem z0bf {g : H} {q pa : Nat} (D : DnAt k B r c a g q pa) (I : RIn k r) {w : Int} (w0 : 0 ≤ w) (w1 : w < k.c) {n i : Nat} {l : List Int} (hl : r.F[n]? = some l) (hi : i < l.length) (hn : r.node w c.h = (n : Int)) (hcn : c.n = (i : Int)) (gv ys : Bool) (hg : gv = z73 r w c) (hy : ys = yesR r w c) (hf : z73 r w c = true → r.Gv.contains a.h = false) (hk : c.kind = 2 ∨ c.kind = 3 ∨ c.kind = 4 ∨ c.kind = 5) :
    Ev (S.z07 W (.ptr B.b 0) w (.ptr q 0) (.ptr pa 0) (r.node w c.h) gv ys g) (SwM k B g (z4c r w c a)) := by
  have ok := D.A.ok
  have M := D.A.M
  have hcl := D.A.cl
  rw [hcn] at hcl
  have l6 := M.l6
  have han := D.an
  have nx := zcp M w c.x
  rw [if_pos ⟨w0, w1⟩] at nx
  have oxF := M.fo.slv.beq
  rw [hn]
  rcases hk with hk | hk | hk | hk
  · rw [hk] at hcl
    cases hgg : gv with
    | false =>
      have hd : z4c r w c a = r := by
        unfold z4c
        rw [← hg, hgg, hk]; simp
      rw [hd]
      simp only [S.z07, zj, zg, zd, zb, z2u, zf, List.getElem?_cons_zero, List.getElem?_cons_succ, Nat.zero_add, Nat.add_zero, Nat.reduceAdd, Nat.reduceLeDiff, Int.reduceEq, Int.reduceNeg, zm, ze, List.length_cons, List.length_nil, Bool.and_true, decide_true, decide_false, z0e, List.take_zero, List.cons_append, List.nil_append, fill, repl, opd, zh, hcl]
      exact Ev.some (SwM.same M ok)
    | true =>
      have hd : z4c r w c a = r.gives w a.h (r.fat (r.node w c.h) c.n) := by
        unfold z4c
        rw [← hg, hgg, hk]; simp
      have hfl : r.fl (r.node w c.h) = l := by
        unfold RSt.fl; rw [hn, Int.toNat_natCast, hl]; rfl
      obtain ⟨f, hf'⟩ : ∃ f, l[i]? = some f := ⟨_, List.getElem?_eq_getElem hi⟩
      have hfat : r.fat (r.node w c.h) c.n = f := by
        unfold RSt.fat; rw [hfl, hcn, Int.toNat_natCast, hf']; rfl
      rw [hd, hfat]
      obtain ⟨b, y, ix, ly, Y⟩ := M.rows.at hl
      obtain ⟨b2, o2, i2, l2⟩ := Y.at hf'
      obtain ⟨g', e1, F1, M1, hn1⟩ := zt9 ok M I (w := w) (q := a.h) (n := f) w0 w1 (hf (by rw [← hg, hgg]))
      simp only [S.z07, zj, zg, zd, zb, z2u, zf, List.getElem?_cons_zero, List.getElem?_cons_succ, Nat.zero_add, Nat.add_zero, Nat.reduceAdd, Nat.reduceLeDiff, Int.reduceEq, Int.reduceNeg, zm, z6t, ze, List.length_cons, List.length_nil, Nat.beq_refl, Bool.and_true, decide_true, decide_false, z0e, List.take_zero, List.cons_append, List.nil_append, fill, repl, opd, zh, zj, hcl, han, l6, ix, ly, i2, l2, e1]
      exact Ev.some ⟨rfl, rfl, F1, B, M1, .refl B g⟩
  · rw [hk] at hcl
    have hd : z4c r w c a = { r with F := r.F.modify n fun l => l.set i (r.node w c.x) } := by
      unfold z4c RSt.setF
      rw [hk, hn, hcn]; simp
    rw [hd]
    obtain ⟨bF, v, bi, kk, i1, l1, vb, i2, s2, hm, hlt, M1⟩ := M.setField ok hl hi (r.node w c.x)
    simp only [S.z07, zj, zg, zd, Option.map_some, zb, z2u, zf, List.getElem?_cons_zero, List.getElem?_cons_succ, Nat.zero_add, Nat.add_zero, Nat.reduceAdd, Nat.reduceLeDiff, Int.reduceEq, Int.reduceNeg, zm, z6t, V.beq, z3c, ze, List.length_cons, List.length_nil, Nat.beq_refl, Bool.and_true, Bool.and_self, decide_true, decide_false, z0e, List.take_zero, List.cons_append, List.nil_append, fill, repl, opd, zh, zj, hcl, l6, i1, l1, nx, vb, oxF, i2, s2]
    exact Ev.some ⟨rfl, rfl, (Fr.refl ok).put (.inl hm) hlt _, B, M1, .refl B g⟩
  · rw [hk] at hcl
    have hd : z4c r w c a = { r with F := r.F.modify n fun l => l.set i (-1) } := by
      unfold z4c RSt.setF
      rw [hk, hn, hcn]; simp
    rw [hd]
    obtain ⟨bF, v, bi, kk, i1, l1, vb, i2, s2, hm, hlt, M1⟩ := M.setField ok hl hi (-1)
    simp only [S.z07, zj, zg, zd, Option.map_some, zb, z2u, zf, List.getElem?_cons_zero, List.getElem?_cons_succ, Nat.zero_add, Nat.add_zero, Nat.reduceAdd, Nat.reduceLeDiff, Int.reduceEq, Int.reduceNeg, zm, z6t, ze, List.length_cons, List.length_nil, Nat.beq_refl, Bool.and_true, decide_true, decide_false, z0e, List.take_zero, List.cons_append, List.nil_append, fill, repl, opd, zh, zj, hcl, l6, i1, l1, i2, s2]
    exact Ev.some ⟨rfl, rfl, (Fr.refl ok).put (.inl hm) hlt _, B, M1, .refl B g⟩
  · rw [hk] at hcl
    cases hyy : ys with
    | false =>
      have hd : z4c r w c a = r := by
        unfold z4c
        rw [← hy, hyy, hk]; simp
      rw [hd]
      simp only [S.z07, zj, zg, zd, zb, z2u, zf, List.getElem?_cons_zero, List.getElem?_cons_succ, Nat.zero_add, Nat.add_zero, Nat.reduceAdd, Nat.reduceLeDiff, Int.reduceEq, Int.reduceNeg, zm, ze, List.length_cons, List.length_nil, Bool.and_true, decide_true, decide_false, z0e, List.take_zero, List.cons_append, List.nil_append, fill, repl, opd, zh, hcl]
      exact Ev.some (SwM.same M ok)
    | true =>
      have hd : z4c r w c a = { r with F := r.F.modify n fun l => l.set i (r.node w c.x) } := by
        unfold z4c RSt.setF
        rw [← hy, hyy, hk, hn, hcn]; simp
      rw [hd]
      obtain ⟨bF, v, bi, kk, i1, l1, vb, i2, s2, hm, hlt, M1⟩ := M.setField ok hl hi (r.node w c.x)
      simp only [S.z07, zj, zg, zd, Option.map_some, zb, z2u, zf, List.getElem?_cons_zero, List.getElem?_cons_succ, Nat.zero_add, Nat.add_zero, Nat.reduceAdd, Nat.reduceLeDiff, Int.reduceEq, Int.reduceNeg, zm, z6t, V.beq, z3c, ze, List.length_cons, List.length_nil, Nat.beq_refl, Bool.and_true, Bool.and_self, decide_true, decide_false, z0e, List.take_zero, List.cons_append, List.nil_append, fill, repl, opd, zh, zj, hcl, l6, i1, l1, nx, vb, oxF, i2, s2]
      exact Ev.some ⟨rfl, rfl, (Fr.refl ok).put (.inl hm) hlt _, B, M1, .refl B g⟩
theorem zyj {r r' : RSt} (h : r.F = r'.F) : ∀ (d i : Nat) (l : List Int), r.reach d i l = r'.reach d i l
  | 0, _, _ => rfl
  | d + 1, i, l => by
    have hfl : ∀ n, r.fl n = r'.fl n := fun n => by unfold RSt.fl; rw [h]
    rw [RSt.reach, RSt.reach]
    cases l[i]? with
    | none => rfl
    | some n =>
      have : r.nexts l (r.fl n) = r'.nexts l (r'.fl n) := by rw [hfl]; rfl
      simp only [this, zyj h d]
theorem z035 {r r' : RSt} (h : r.F = r'.F) (n : Int) : r.reached n = r'.reached n := by
  unfold RSt.reached
  rw [h, zyj h]
theorem z07u {e : Nat} {x : V} {lo hi mx : Option V} {b o n : Nat} {c : Cap} (h : z67 e x lo hi mx = some (.sl b o n c)) : b ∈ x.blk := by
  unfold z67 at h
  cases x with
  | sl b' o' n' c' =>
    simp only [V.blk, List.mem_singleton]
    cases c' <;> simp only at h <;> (repeat' split at h) <;> simp_all
  | nilsl => simp only at h; (repeat' split at h) <;> simp_all
  | _ => simp at h
theorem z042 {B : MdB} {i : Nat} {v : V} {x : Nat} (h : x ∈ ({ B with ns := B.ns.set i v } : MdB).nb) : x ∈ B.nb ∨ x ∈ v.blk := by
  unfold MdB.nb at h ⊢
  obtain ⟨lb, h1, h2⟩ := List.mem_flatten.mp h
  obtain ⟨u, h3, rfl⟩ := List.mem_map.mp h1
  rcases zid h3 with rfl | h3
  · exact .inr h2
  · exact .inl (List.mem_flatten.mpr ⟨u.blk, List.mem_map.mpr ⟨u, h3, rfl⟩, h2⟩)
theorem z0bo {g : H} {q pa : Nat} (D : DnAt k B r c a g q pa) (I : RIn k r) (B1 : r.small) {w : Int} (w0 : 0 ≤ w) (w1 : w < k.c) (gv ys : Bool) (hn : c.kind = 8 → ∃ n : Nat, r.node w c.h = (n : Int) ∧ n < r.F.length) (hf : c.kind = 8 ∨ c.kind = 9 → r.Gv.contains a.h = false) (h9 : c.kind = 9 → r.come w ≠ []) (hu : U64 a.h) (hk : 6 ≤ c.kind ∧ c.kind ≤ 10) :
    Ev (S.z07 W (.ptr B.b 0) w (.ptr q 0) (.ptr pa 0) (r.node w c.h) gv ys g) (SwM k B g (z4c r w c a)) := by
  have ok := D.A.ok
  have M := D.A.M
  have hcl := D.A.cl
  have han := D.an
  have l7 := M.l7
  have l8 := M.l8
  have l9 := M.l9
  obtain ⟨i, v, hwi, hv, hW, hCm, iw, lw, lv, R⟩ := M.walk w0 w1
  have hi : i < k.C := by have := z01 hW; have := M.wl.1; omega
  have hbw : B.bw ∈ B.l := by simp [MdB.l]
  by_cases k6 : c.kind = 6
  · rw [k6] at hcl
    have hd : z4c r w c a = { r with Hs := r.Hs.filter fun x => !(x.is w c.h) } := by unfold z4c; rw [k6]; simp
    rw [hd]
    obtain ⟨j, m, i1, l1, g', e1, F1, M1⟩ := M.del ok I w0 w1 c.h
    simp only [S.z07, zj, zg, zd, zb, z2u, zf, List.getElem?_cons_zero, List.getElem?_cons_succ, Nat.zero_add, Nat.add_zero, Nat.reduceAdd, Nat.reduceLeDiff, Int.reduceEq, Int.reduceNeg, zm, ze, List.length_cons, List.length_nil, Bool.and_true, decide_true, decide_false, z0e, List.take_zero, List.cons_append, List.nil_append, fill, repl, opd, zh, zj, hcl, l7, i1, l1, e1]
    exact Ev.some ⟨rfl, rfl, F1, B, M1, .refl B g⟩
  by_cases k7 : c.kind = 7
  · rw [k7] at hcl
    have hd : z4c r w c a = r := by unfold z4c; rw [k7]; simp
    rw [hd]
    simp only [S.z07, zj, zg, zd, zb, z2u, zf, List.getElem?_cons_zero, List.getElem?_cons_succ, Nat.zero_add, Nat.add_zero, Nat.reduceAdd, Nat.reduceLeDiff, Int.reduceEq, Int.reduceNeg, zm, ze, List.length_cons, List.length_nil, Bool.and_true, decide_true, decide_false, z0e, List.take_zero, List.cons_append, List.nil_append, fill, repl, opd, zh, hcl]
    exact Ev.some (SwM.same M ok)
  by_cases k8 : c.kind = 8
  · rw [k8] at hcl
    obtain ⟨n, en, hnl⟩ := hn k8
    have hd : z4c r w c a = { r with Gv := r.Gv ++ [a.h], Wk := r.Wk.set i a.h, Cm := r.Cm.set i (r.reached (n : Int)) } := by
      unfold z4c; rw [k8, en, hwi]; simp
    rw [hd, en]
    obtain ⟨g1, e1, F1, hn1, M1⟩ := M.give ok (hf (.inl k8))
    have l81 := M1.l8
    have han1 := F1.get ok han D.no.2
    have I1 : RIn k { r with Gv := r.Gv ++ [a.h] } := ⟨I.wk, I.cm, I.f, fun x hx => by have := I.hs x hx; exact ⟨this.1, this.2.1, List.mem_append_left _ this.2.2.1, this.2.2.2⟩, I.nd, I.come, I.wu, fun x hx => by
      rcases List.mem_append.mp hx with h | h
      · exact I.gu x h
      · simp only [List.mem_singleton] at h; subst h; exact hu⟩
    obtain ⟨⟨u, g2⟩, e2, F2, R2, hub⟩ := z01o (k := k) (B := B) (r := { r with Gv := r.Gv ++ [a.h] }) F1.ok M1 I1 B1.f B1.l hnl
    dsimp only at F2 R2 hub
    have erc : ({ r with Gv := r.Gv ++ [a.h] } : RSt).reached (n : Int) = r.reached (n : Int) := z035 (r := { r with Gv := r.Gv ++ [a.h] }) (r' := r) rfl _
    rw [erc] at R2
    have M2 := M1.fr0 F1.ok F2
    have l82 := M2.l8
    have han2 := F2.get F1.ok han1 (by simp)
    have hlt := M1.lt F1.ok
    obtain ⟨s3, M3⟩ := M2.setWalk F2.ok hi a.h R2 (fun b hb q => by have := hub b hb; have := hlt b q; omega)
    have ou := R2.slv
    have ou1 := ou.one
    have ou2 := ou.box
    have bwl : B.bw < g2.next := F2.ok.lt M2.wo
    simp only [S.z07, zj, zg, zd, Option.map_some, zb, z2u, zf, List.getElem?_cons_zero, List.getElem?_cons_succ, Nat.zero_add, Nat.add_zero, Nat.reduceAdd, Nat.reduceLeDiff, Int.reduceEq, Int.reduceNeg, zm, z61, V.beq, z3c, ze, List.length_cons, List.length_nil, Nat.beq_refl, Bool.and_true, Bool.true_and, Bool.and_self, decide_true, decide_false, z0e, List.take_succ_cons, List.take_zero, List.drop_succ_cons, List.drop_zero, List.cons_append, List.nil_append, fill, repl, opd, zc5, zh, zj, hcl, l9, han, e1, l81, han1, e2, l82, han2, iw, ou2, s3]
    refine Ev.some ⟨rfl, rfl, ((F1.trans F2 (by simp)).put (.inl hbw) bwl _), _, M3, rfl, fun x hx => .inl hx, fun x hx => ?_⟩
    rcases z042 hx with q | q
    · exact .inl q
    · exact .inr (by have := hub x q; omega)
  by_cases k9 : c.kind = 9
  · rw [k9] at hcl
    cases hcome : r.come w with
    | nil => exact absurd hcome (h9 k9)
    | cons x xs =>
      have hd : z4c r w c a = { (r.gives w a.h x) with Cm := r.Cm.set i xs } := by
        unfold z4c
        rw [hcome, k9, hwi]; simp
      rw [hd]
      rw [hcome] at R
      obtain ⟨b2, o2, i2, l2⟩ := R.at (i := 0) (w := x) rfl
      have i2 : za 1 v (.int .i64 0) = some (.ptr b2 o2) := i2
      obtain ⟨v', sl, R'⟩ := R.tail
      obtain ⟨g1, e1, F1, M1, hn1⟩ := zt9 ok M I (w := w) (q := a.h) (n := x) w0 w1 (hf (.inr k9))
      have l81 := M1.l8
      have R1 := M1.wr i v (x :: xs) hv (by rw [show (r.gives w a.h x).Cm = r.Cm from rfl, hCm, hcome])
      obtain ⟨v'', sl1, R1'⟩ := R1.tail
      have hvv : v'' = v' := by rw [sl] at sl1; exact (Option.some.inj sl1).symm
      subst hvv
      obtain ⟨e5, e6⟩ := zs4 hW hv
      have lv1 : ldB (g1.get B.bw) (i * 2 + 1) = some v := by
        have e6' : (z21 (r.gives w a.h x).Wk B.ns)[i * 2 + 1]? = some v := e6
        rw [M1.wo, zf, e6']; simp only [R.slv.one]
      have hvb : ∀ b ∈ v''.blk, b ∈ v.blk := by
        intro b hb
        rcases R with ⟨_, h0⟩ | ⟨bb, o, cc, kk, cs, hx, _⟩
        · cases h0
        · rw [hx] at sl ⊢
          rcases R' with ⟨e, _⟩ | ⟨b', o', c', k', cs', e, hb', _⟩
          · rw [e] at hb; cases hb
          · rw [e] at hb sl
            simp only [V.blk, List.mem_singleton] at hb ⊢
            subst hb
            -- a slice of a slice stands in its block
            have := z07u sl
            simpa [V.blk] using this
      have hW1 : r.Wk.set i (r.walk w) = r.Wk := by
        apply List.ext_getElem?
        intro j
        by_cases hj : i = j
        · subst hj; rw [List.getElem?_set_self (z01 hW), hW]
        · rw [List.getElem?_set_ne hj]
      obtain ⟨s3, M3⟩ := M1.setWalk F1.ok hi (r.walk w) R1' (fun b hb => M.nbm hv (hvb b hb))
      have hset : (r.gives w a.h x).Wk.set i (r.walk w) = r.Wk := hW1
      rw [hset] at s3 M3
      have ov := R1'.slv
      have ov1 := ov.one
      have ov2 := ov.cells
      have hlw : (z21 r.Wk B.ns).length = k.C * 2 := by have := M.wl; rw [zmg (by omega), this.1]
      have s4 : stB (g1.get B.bw) (i * 2 + 1) [v''] = some (.cells (z21 r.Wk (B.ns.set i v'')) B.kb) := by
        have := M.wl
        rw [z06u M1.wo B.kb_ne (by show i * 2 + 1 < (z21 r.Wk B.ns).length; rw [hlw]; omega) ov1]
        have : (z21 (r.gives w a.h x).Wk B.ns).set (i * 2 + 1) v'' = z21 r.Wk (B.ns.set i v'') := zyi (l := r.Wk) (m := B.ns) v'' (by omega) (by omega)
        rw [this]
      have bwl : B.bw < g1.next := F1.ok.lt M1.wo
      simp only [S.z07, zj, zg, zd, Option.map_some, zb, z2u, zf, List.getElem?_cons_zero, List.getElem?_cons_succ, Nat.zero_add, Nat.add_zero, Nat.reduceAdd, Nat.reduceLeDiff, Int.reduceEq, Int.reduceNeg, zm, z61, ze, List.length_cons, List.length_nil, Nat.beq_refl, Bool.and_true, decide_true, decide_false, z0e, List.take_zero, List.cons_append, List.nil_append, fill, repl, opd, zh, zj, hcl, han, l8, iw, lv, i2, l2, e1, l81, lv1, sl, ov2, s4]
      refine Ev.some ⟨rfl, rfl, F1.put (.inl hbw) bwl _, { B with ns := B.ns.set i v'' }, M3, rfl, fun x hx => .inl hx, fun y hy => ?_⟩
      rcases z042 hy with q | q
      · exact .inl q
      · exact .inl (by unfold MdB.nb; exact List.mem_flatten.mpr ⟨v.blk, List.mem_map.mpr ⟨v, List.mem_of_getElem? hv, rfl⟩, hvb y q⟩)
  · have k10 : c.kind = 10 := by omega
    rw [k10] at hcl
    have hd : z4c r w c a = { r with Wk := r.Wk.set i 0, Cm := r.Cm.set i [] } := by unfold z4c; rw [k10, hwi]; simp
    rw [hd]
    obtain ⟨s3, M3⟩ := M.setWalk ok hi 0 (v := .nilsl) (l := []) (.inl ⟨rfl, rfl⟩) (by simp [V.blk])
    have bwl : B.bw < g.next := ok.lt M.wo
    simp only [S.z07, zj, zg, zd, Option.map_some, zb, z2u, zf, List.getElem?_cons_zero, List.getElem?_cons_succ, Nat.zero_add, Nat.add_zero, Nat.reduceAdd, Nat.reduceLeDiff, Int.reduceEq, Int.reduceNeg, zm, z61, ze, List.length_cons, List.length_nil, Nat.beq_refl, Bool.and_true, decide_true, decide_false, z0e, List.take_zero, List.cons_append, List.nil_append, fill, repl, opd, zh, zj, hcl, l8, iw, s3]
    refine Ev.some ⟨rfl, rfl, (Fr.refl ok).put (.inl hbw) bwl _, _, M3, rfl, fun x hx => .inl hx, fun y hy => ?_⟩
    rcases z042 hy with q | q
    · exact .inl q
    · simp [V.blk] at q
end
section
variable {g0 : Nat → Option Blk} {h : H} {k : Cfg} {s : StV} {r : RSt} {c : CallR} {a : AnsR} {g : H} {p q pa po : Nat}
def ok13 (r : RSt) (w : Int) (c : CallR) (a : AnsR) : Bool := decide (a.err = 0) && (a.yes == yesR r w c) && (if z73 r w c then r.fresh a.h else decide (a.h = 0))
end
end Wm
end
