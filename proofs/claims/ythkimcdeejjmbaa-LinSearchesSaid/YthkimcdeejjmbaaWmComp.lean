/- From the model's code to my abstract machine's: operations without types, regions in one order. -/
import Derived.Test.YthkimcdeejjmbaaWmCore
import GoSem.Core.Layout
import GoSem.Op.Equal
import GoSem.Core.Region
set_option linter.all false
namespace Wm
open Go (IntKind BinOp Program TypeId FuncId Value Oper Operand Func Code TypeDesc)
structure Tab where
  fn : List (Nat × Nat)
  ty : List (Nat × Nat)
  meth : List (String × Nat)
def z6e (l : List (Nat × Nat)) (n : Nat) : Option Nat :=
  match l with
  | [] => none
  | (a, b) :: l => match Nat.beq a n with
    | true => some b
    | false => z6e l n
def znr (l : List (String × Nat)) (s : String) : Option Nat :=
  match l with
  | [] => none
  | (a, b) :: l => match a == s with
    | true => some b
    | false => znr l s
def z3s {α : Type} : List (Option α) → Option (List α)
  | [] => some []
  | some a :: l => match z3s l with
    | some l => some (a :: l)
    | none => none
  | none :: _ => none
def cvN : Nat → Value → Option V
  | 0, _ => none
  | n + 1, v => match v with
    | .bool b => some (.bool b)
    | .int k n => some (.int k n)
    | .string s => some (.str s)
    | .pointer none => some .nilp
    | .slice none 0 0 => some .nilsl
    | .map none => some .nilmap
    | .nilFunc => some .nilfn
    | .nilIface => some .nilifc
    | .agg cs => match z3s (cs.toList.map (cvN n)) with
      | some l => some (.agg l)
      | none => none
    | .tuple cs => match z3s (cs.toList.map (cvN n)) with
      | some l => some (.tup l)
      | none => none
    | _ => none
def cv (v : Value) : Option V := cvN 5 v
section
variable (P : Program) (tab : Tab)
def cOpd : Operand → Option Opd
  | .tmp t => some (.t t)
  | .const v => (cv v).map .c
  | .func f => (z6e tab.fn f).map fun f => .c (.fn f [])
  | .global _ => none
def zf2 (l : List Operand) : Option (List Opd) := z3s (l.map (cOpd tab))
def zt5 (t : TypeId) : Option V := (P.info? t).bind fun i => i.zero.bind cv
def zeroCells (t : TypeId) : Option (List V) := (zt5 P t).bind boxc
def z3e (t : TypeId) : Bool := match P.underlying t with
  | some (.struct _) | some (.array _ _) => true
  | _ => false
def ze7 : Nat → TypeId → Option (List (Nat × Ck))
  | 0, _ => none
  | d + 1, t => match P.underlying t with
    | some .bool => some [(0, .bool)]
    | some (.int _) => some [(0, .int)]
    | some .string => some [(0, .str)]
    | some (.struct fs) => match P.stoodInHeld t with
      | true => none
      | false => (z3s (fs.toList.map fun f => match f.name == "_" with
        | true => none
        | false => (ze7 d f.type).bind fun l => match l.all (fun o => decide (o.1 < P.cellsOf f.type)) with
          | true => some (l.map fun o => (o.1 + f.offset, o.2))
          | false => none)).map List.flatten
    | _ => none
def zo6 (t : TypeId) : Option Ck := match P.underlying t with
  | some .bool => some .bool
  | some (.int _) => some .int
  | some .string => some .str
  | _ => none
def z2z : AOp := .extract (.c .undef) 0
def zh6 : Operand → Bool
  | .const _ => true
  | _ => false
def zdq (f : FuncId) : Bool := match P.funcs[f]? with
  | some fn => fn.body.isSome && fn.name != "runtime.NumGoroutine"
  | none => false
def zu1 (f : FuncId) : Bool := match P.funcs[f]? with
  | some fn => fn.body.isNone && fn.name == "maps.clone" && fn.origin == ""
  | none => false
def cBin (op : BinOp) (xt : TypeId) (x y : Operand) (yt : TypeId) : Option AOp :=
  (cOpd tab x).bind fun a => (cOpd tab y).bind fun b =>
  match P.underlying xt with
  | some (.int k) =>
    match zpm op with
    | true => match P.underlying yt with
      | some (.int ky) => some (.shift (op == .shl) k ky a b)
      | _ => none
    | false => match zvg op with
      | true => some (.cmp op k a b)
      | false => some (.arith op k a b)
  | some .bool => match op with
    | .eql => some (.eq false .bool a b)
    | .neq => some (.eq true .bool a b)
    | _ => none
  | some .string => match op with
    | .eql => some (.eq false .str a b)
    | .neq => some (.eq true .str a b)
    | .add => some (.cat a b)
    | _ => none
  | some (.pointer _) => match op with
    | .eql => some (.eq false .ptr a b)
    | .neq => some (.eq true .ptr a b)
    | _ => none
  | some (.slice _) => match op with
    | .eql => some (.eq false .sl a b)
    | .neq => some (.eq true .sl a b)
    | _ => none
  | some (.map _ _) => match op with
    | .eql => some (.eq false .map a b)
    | .neq => some (.eq true .map a b)
    | _ => none
  | some (.interface _) => match zh6 x || zh6 y, op with
    | true, .eql => some (.eq false .ifc a b)
    | true, .neq => some (.eq true .ifc a b)
    | _, _ => none
  | some (.struct _) => match P.eqGuardType P.depth xt with
    | true => none
    | false => (ze7 P 6 xt).bind fun offs => match op with
      | .eql => some (.eq false (.agg offs) a b)
      | .neq => some (.eq true (.agg offs) a b)
      | _ => none
  | _ => none
def zjk (places : Nat → Option (Nat × Nat)) (parts : List (Nat × Operand)) : Option (List (Nat × Nat × Opd)) :=
  z3s (parts.map fun p => (places p.1).bind fun q => (cOpd tab p.2).map fun x => (q.1, q.2, x))
def zyb (b : Go.Builtin) (args : List Operand) (tys : List TypeId) : Option AOp :=
  (zf2 tab args).bind fun xs =>
  match b, xs, tys with
  | .len, [x], [t] => match P.underlying t with
    | some .string => some (.lenStr x)
    | some (.slice _) => some (.lenSl x)
    | some (.map _ _) => some (.lenMap x)
    | _ => none
  | .append, [s, x], [t, u] => match P.underlying t, P.underlying u with
    | some (.slice e), some (.slice _) => (P.info? e).bind fun i => (zeroCells P e).bind fun z => match Nat.beq z.length i.size with
      | true => some (.append i.size i.bytes s x)
      | false => none
    | _, _ => none
  | .copy, [s, x], [t, u] => match P.underlying t, P.underlying u with
    | some (.slice e), some (.slice _) => (P.info? e).map fun _ => .copy (P.cellsOf e) s x
    | _, _ => none
  | .delete, [m, k], [t, _] => match P.underlying t with
    | some (.map key _) => (zo6 P key).map fun c => .mapDel c m k
    | _ => none
  | .min, [x, y], t :: _ => match P.underlying t with
    | some (.int k) => some (.minmax false k x y)
    | _ => none
  | .max, [x, y], t :: _ => match P.underlying t with
    | some (.int k) => some (.minmax true k x y)
    | _ => none
  | _, _, _ => none
def cOp (o : Oper) : Option AOp :=
  match o.op with
  | .move x | .assign x => (cOpd tab x).map .mov
  | .pick c a b => (cOpd tab c).bind fun c => (cOpd tab a).bind fun a => (cOpd tab b).map fun b => .pick c a b
  | .alloc e => (zeroCells P e).map .alloc
  | .box _ x => (cOpd tab x).map .box
  | .build t parts => (zeroCells P t).bind fun z => match P.underlying t with
    | some (.struct fs) => match fs.toList.all fun f => (P.info? f.type).isSome with
      | true => (zjk tab (fun i => fs[i]?.map fun f => (f.offset, P.cellsOf f.type)) parts.toList).map (.build z)
      | false => none
    | some (.array _ e) => (P.info? e).bind fun _ => (zjk tab (fun i => some (i * P.cellsOf e, P.cellsOf e)) parts.toList).map (.build z)
    | _ => none
  | .buildSlice t len parts => match P.underlying t with
    | some (.slice e) => match decide (len * P.cellsOf e ≤ 1000) with
      | true => (zeroCells P e).bind fun z => (zjk tab (fun i => some (i * P.cellsOf e, P.cellsOf e)) parts.toList).map (.buildSl (P.cellsOf e) len z)
      | false => none
    | _ => none
  | .load t a => (cOpd tab a).bind fun a => (P.underlying t).map fun _ => match z3e P t with
    | true => .loadN (P.cellsOf t) a
    | false => .load1 a
  | .store t a x => (cOpd tab a).bind fun a => (cOpd tab x).bind fun x => (P.underlying t).map fun _ => .store (P.cellsOf t) a x
  | .nilCheck x => (cOpd tab x).map .nilc
  | .binOp op xt x y yt => cBin P tab op xt x y yt
  | .unOp .not _ x => (cOpd tab x).map .not
  | .convert src dst x => (cOpd tab x).bind fun a => match P.underlying src, P.underlying dst with
    | some (.int _), some (.int k) => some (.conv k a)
    | _, _ => none
  | .makeInterface t x => match P.underlying t with
    | none | some (.interface _) => none
    | some _ => (z6e tab.ty t).bind fun t => (cOpd tab x).map (.mkIfc t)
  | .makeFunc (.func f) first captured => match first.size, zdq P f with
    | 0, true => (z6e tab.fn f).bind fun f => (zf2 tab captured.toList).map (.mkFn f)
    | _, _ => none
  | .makeMap t none => match P.underlying t with
    | some (.map _ _) => some .mkMap
    | _ => none
  | .makeSlice t l c => match P.underlying t with
    | some (.slice e) => (P.info? e).bind fun i => (zeroCells P e).bind fun z => (cOpd tab l).bind fun l => (cOpd tab c).map fun c => .mkSl i.size i.bytes z l c
    | _ => none
  | .slice t x lo hi mx => (cOpd tab x).bind fun x =>
    (match lo with | none => some none | some a => (cOpd tab a).map some).bind fun lo =>
    (match hi with | none => some none | some a => (cOpd tab a).map some).bind fun hi =>
    (match mx with | none => some none | some a => (cOpd tab a).map some).bind fun mx =>
    match P.underlying t, mx with
    | some (.slice e), mx => match mx.isSome && hi.isNone with
      | true => none
      | false => (P.info? e).map fun _ => .slice (P.cellsOf e) x lo hi mx
    | some .string, none => some (.strSlice x lo hi)
    | _, _ => none
  | .fieldAddr s x i => match P.underlying s with
    | some (.struct fs) => fs[i]?.bind fun f => match Nat.beq (P.cellsOf f.type) 0 with
      | true => none
      | false => (cOpd tab x).map (.fieldA f.offset)
    | _ => none
  | .field t x i => match P.underlying t with
    | some (.struct fs) => fs[i]?.bind fun f => (P.underlying f.type).bind fun _ => (cOpd tab x).map (.field f.offset (P.cellsOf f.type) (z3e P f.type))
    | _ => none
  | .indexAddr t x i => (cOpd tab x).bind fun x => (cOpd tab i).bind fun i => match P.underlying t with
    | some (.slice e) => (P.info? e).map fun _ => .indexA (P.cellsOf e) x i
    | some (.array n e) => (P.info? e).map fun _ => .indexArr n (P.cellsOf e) x i
    | _ => none
  | .index t x i => (cOpd tab x).bind fun x => (cOpd tab i).bind fun i => match P.underlying t with
    | some (.array n e) => (P.underlying e).map fun _ => .indexAgg n (P.cellsOf e) (z3e P e) x i
    | some .string => some (.indexStr x i)
    | _ => none
  | .lookup t m k ok => (cOpd tab m).bind fun m => (cOpd tab k).bind fun k => match P.underlying t with
    | some (.map key e) => (zo6 P key).bind fun c => (zt5 P e).map fun z => .lookup c z ok m k
    | _ => none
  | .mapUpdate t m k x => (cOpd tab m).bind fun m => (cOpd tab k).bind fun k => (cOpd tab x).bind fun x => match P.underlying t with
    | some (.map key _) => (zo6 P key).map fun c => .mapSet c m k x
    | _ => none
  | .extract x i => (cOpd tab x).map fun x => .extract x i
  | .call c => match c.callee with
    | .value (.func f) => match zdq P f with
      | true => (z6e tab.fn f).bind fun f => (zf2 tab c.args.toList).map (.call f)
      | false => match zu1 P f with
        | true => (zf2 tab c.args.toList).bind fun l => match l with
          | [x] => some (.cloneM x)
          | _ => none
        | false => none
    | .value x => (cOpd tab x).bind fun x => (zf2 tab c.args.toList).map (.callv x)
    | .invoke r m => (znr tab.meth m).bind fun m => (cOpd tab r).bind fun r => (zf2 tab c.args.toList).map (.invoke m r)
    | .builtin b => zyb P tab b c.args.toList c.argTypes.toList
  | .typeAssert x _ t ok => match ok, P.underlying t with
    | false, some d => match (match d with | .interface _ => true | _ => false) with
      | true => none
      | false => (z6e tab.ty t).bind fun t' => match tab.ty.all fun p => !Nat.beq p.2 t' || Nat.beq p.1 t with
        | true => (cOpd tab x).map (.asrt t')
        | false => none
    | _, _ => none
  | _ => none
def cOpF (o : Oper) : AOp := (cOp P tab o).getD z2z
inductive Cls where
  | pure | read | alloc | eff
  deriving DecidableEq
def AOp.cls : AOp → Cls
  | .load1 _ | .loadN _ _ | .lookup _ _ _ _ _ | .lenMap _ | .bytesStr _ => .read
  | .box _ | .alloc _ | .buildSl _ _ _ _ | .mkMap | .mkSl _ _ _ _ _ => .alloc
  | .store _ _ _ | .mapSet _ _ _ _ | .mapDel _ _ _ | .append _ _ _ _ | .copy _ _ _ | .call _ _ | .callv _ _ | .invoke _ _ _ | .cloneM _ => .eff
  | _ => .pure
def z8h (bs : List Nat) (i j : Nat) : Bool := (bs.getD j 0).testBit i
def ord (bs : List Nat) (i j : Nat) : Bool := z8h bs i j || z8h bs j i
def zoc (p : Nat → Bool) : List Nat → Option Nat
  | [] => none
  | i :: l => match p i with
    | true => some i
    | false => zoc p l
def zil (bs : List Nat) (cl : List Cls) : Nat → Nat → List Nat → List Nat
  | 0, _, _ => []
  | n + 1, done, left =>
    let ready := fun i => Nat.beq ((bs.getD i 0) &&& done) (bs.getD i 0)
    let pr := fun i => ready i && (match cl.getD i .pure with | .pure | .read => true | _ => false)
    let ef := fun i => ready i && (match cl.getD i .pure with | .eff => true | _ => false)
    match zoc pr left with
    | some i => i :: zil bs cl n (done ||| 2 ^ i) (left.filter fun j => !Nat.beq i j)
    | none => match zoc ef left with
      | some i => i :: zil bs cl n (done ||| 2 ^ i) (left.filter fun j => !Nat.beq i j)
      | none => match zoc ready left with
        | some i => i :: zil bs cl n (done ||| 2 ^ i) (left.filter fun j => !Nat.beq i j)
        | none => []
def zc1 (ops : List Oper) (o : Oper) : List Nat := match o.guard with
  | some (j, _) => ((ops[j]?).bind (·.dst)).toList
  | none => []
def zqg (a : Option Nat) (l : List Nat) : Bool := match a with
  | some d => l.contains d
  | none => false
def ztt (ops : List Oper) (as : List AOp) (i j : Nat) : Bool :=
  match ops[i]?, ops[j]? with
  | some a, some b =>
    !zqg a.dst (b.dst.toList ++ (as.getD j z2z).tmps ++ zc1 ops b) && !zqg b.dst ((as.getD i z2z).tmps ++ zc1 ops a) &&
    (match (as.getD i z2z).cls, (as.getD j z2z).cls with
      | .eff, .eff | .eff, .read | .alloc, .eff | .alloc, .read => false
      | _, _ => true)
  | _, _ => false
def ztu (ops : List Oper) (bs : List Nat) (as : List AOp) : List Nat → Bool
  | [] => true
  | i :: l => decide (i < ops.length) && l.all (fun j => !Nat.beq i j && !z8h bs j i && (z8h bs i j || ztt ops as i j)) && ztu ops bs as l
def zu3 (ops : List Oper) : List Nat → List Nat → Bool
  | _, [] => true
  | done, i :: l => (match ops[i]? with
    | some o => o.after.toList.all fun e => !Go.Region.binds .any e || done.contains e.on
    | none => false) && zu3 ops (i :: done) l
def zno : AOp → Bool
  | .load1 _ | .loadN _ _ | .lookup _ _ _ _ _ | .lenMap _ => true
  | _ => false
def gOf (ops : List Oper) (o : Oper) : Option (Option (Nat × Bool)) := match o.guard with
  | none => some none
  | some (j, w) => match (ops[j]?).bind (·.dst) with
    | some t => some (some (t, w))
    | none => none
def zvc (ops : List Oper) (bs : List Nat) (as : List AOp) (j : Nat) (later : List Nat) (i : Nat) : Option (List Chk) :=
  match z8h bs i j, (as.getD i z2z).cls with
  | false, .read => match ops[i]? with
    | none => none
    | some o => match o.dst, gOf ops o with
      | some d, some g => match zno (as.getD i z2z) && !(later.any fun t => Nat.beq t d || ((as.getD i z2z).tmps ++ zc1 ops o).contains t) && !((as.getD i z2z).tmps ++ zc1 ops o).contains d with
        | true => some [{ g, op := as.getD i z2z, d }]
        | false => none
      | _, _ => none
  | _, _ => some []
def zj4 (ops : List Oper) (bs : List Nat) (as : List AOp) (j : Nat) : List Nat → List Nat → Option (List Chk)
  | _, [] => some []
  | later, i :: l => match zvc ops bs as j later i, zj4 ops bs as j (((ops[i]?).bind (·.dst)).toList ++ later) l with
    | some c, some r => some (c ++ r)
    | _, _ => none
def aiOf (ops : List Oper) (bs : List Nat) (as : List AOp) (draw : Bool) (done : List Nat) (i : Nat) : Option AI :=
  match draw, (as.getD i z2z).cls with
  | true, .eff => match zj4 ops bs as i [] done with
    | some c => some { dst := (ops[i]?).bind (·.dst), op := as.getD i z2z, chk := c }
    | none => none
  | _, _ => some { dst := (ops[i]?).bind (·.dst), op := as.getD i z2z, chk := [] }
def addI (g : Option (Nat × Bool)) (i : AI) (r : AIs) : AIs :=
  match g, r with
  | none, r => .op i r
  | some (g, w), .grd g' w' body rest => match Nat.beq g g' && (w == w') && !zqg i.dst [g] with
    | true => .grd g w (i :: body) rest
    | false => .grd g w [i] r
  | some (g, w), r => .grd g w [i] r
def cAIs (ops : List Oper) (bs : List Nat) (as : List AOp) (draw : Bool) : List Nat → List Nat → Option AIs
  | _, [] => some .nil
  | done, i :: l => match aiOf ops bs as draw done i, cAIs ops bs as draw (i :: done) l with
    | some a, some r => match (ops[i]?).bind (·.guard) with
      | none => some (addI none a r)
      | some (j, w) => match (ops[j]?).bind (·.dst) with
        | some t => some (addI (some (t, w)) a r)
        | none => none
    | _, _ => none
def zwl (ops : Array Oper) (draw : Bool) : Option AIs :=
  let l := ops.toList
  let as := l.map (cOpF P tab)
  let bs := (Go.Region.before ops).toList
  match draw with
  | false => cAIs l bs as false [] (List.range l.length)
  | true =>
    let s := zil bs (as.map AOp.cls) l.length 0 (List.range l.length)
    match (List.range l.length).all s.contains && ztu l bs as s && zu3 l [] s with
    | true => cAIs l bs as true [] s
    | false => none
def zfo : Code → List Nat
  | .seq a b => zfo a ++ zfo b
  | .label l => [l]
  | _ => []
abbrev z7f := List (List Nat × List Nat)
def z064 : z7f → Option (List Nat × List Nat) × z7f
  | ((m :: keep), out) :: hs => match Nat.ble 1000000 m with
    | true => match Nat.beq m 1000000 with
      | true => (some (keep, out), hs)
      | false => (none, ((m - 1) :: keep, out) :: hs)
    | false => (none, ((m :: keep), out) :: hs)
  | hs => (none, hs)
def joinO : Option (List Nat × List Nat) → ACode → ACode
  | none, a => a
  | some (keep, out), a => .join keep out a
def ztj (f : Nat → z7f → Option (ACode × z7f)) : List Nat → z7f → Option (ACode × z7f)
  | [], hs => some (.skip, hs)
  | l :: ls, hs => (f l hs).bind fun p => (ztj f ls p.2).map fun q => (.alt l p.1 q.1, q.2)
mutual
def cC : Code → z7f → Option (ACode × z7f)
  | .skip, hs => some (.skip, hs)
  | .region _ ops draw, hs => (zwl P tab ops draw).map fun l => (.ops l, hs)
  | .seq a b, hs => (cC a (z064 hs).2).bind fun p => (cC b p.2).map fun q => (.seq (joinO (z064 hs).1 p.1) q.1, q.2)
  | .cond c a b, hs => (cOpd tab c).bind fun c => (cC a hs).bind fun p => (cC b p.2).map fun q => (.cond c p.1 q.1, q.2)
  | .block id a, hs => (cC a hs).map fun p => (.block id p.1, p.2)
  | .loop a, (keep, out) :: hs => (cC a hs).map fun p => (.loop keep out p.1, p.2)
  | .scope a, (keep, out) :: hs => (cC a hs).bind fun p => (ztj (fun l hs => cR a l hs) (zfo a) p.2).map fun q => (.scope keep out p.1 q.1, q.2)
  | .label _, hs => some (.skip, hs)
  | .exit id, hs => some (.exit id, hs)
  | .goto l, hs => some (.goto l, hs)
  | .ret, hs => some (.ret, hs)
  | .refuse _, hs => some (.cond (.c .undef) .skip .skip, hs)
  | _, _ => none
def cR : Code → Nat → z7f → Option (ACode × z7f)
  | .seq a b, l, hs => match (zfo a).contains l with
    | true => (cR a l hs).bind fun p => (cC b p.2).map fun q => (.seq p.1 q.1, q.2)
    | false => cR b l hs
  | .label l', l, hs => match Nat.beq l' l with
    | true => some (.skip, hs)
    | false => none
  | _, _, _ => none
end
def cRes : Go.ResultVar → Option ARes
  | .tmp t => some (.tmp t)
  | .cell a t => (P.underlying t).map fun _ => .cell (z3e P t) (P.cellsOf t) a
def comp (cl : Bool) (hs : z7f) (fn : Func) : Option AFunc :=
  fn.body.bind fun c => (cC P tab c hs).bind fun p => (z3s (fn.results.toList.map (cRes P))).map fun r =>
    { closed := cl, nparams := fn.params.size + fn.nfree, ntmps := fn.ntmps, results := r, body := p.1 }
end
end Wm
