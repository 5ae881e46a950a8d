/- An abstract machine of my own: values, a heap of numbered blocks, operations, code; no order is drawn in it, no capacity, no address is seen. -/
import GoSem.Core.View
import GoSem.Core.Code
set_option linter.all false
namespace Wm
open Go (IntKind BinOp)
inductive T (α:Type) where
 | leaf
 | node (l:T α) (v:Option α) (r:T α)
def T.get {α:Type}:T α->Nat->Option α
 | .leaf,_=>none
 | .node l v r,n=>match Nat.beq n 0 with
  | true=>v
  | false=>match Nat.beq (n % 2) 1 with
   | true=>l.get (n / 2)
   | false=>r.get (n / 2-1)
def T.put' {α:Type} (o:Option α):Nat->T α->Nat->T α
 | 0,t,_=>t
 | f+1,t,n =>
  match t with
  | .leaf=>match Nat.beq n 0 with
   | true=>.node .leaf o .leaf
   | false=>match Nat.beq (n % 2) 1 with
    | true=>.node (T.put' o f .leaf (n / 2)) none .leaf
    | false=>.node .leaf none (T.put' o f .leaf (n / 2-1))
  | .node l v r=>match Nat.beq n 0 with
   | true=>.node l o r
   | false=>match Nat.beq (n % 2) 1 with
    | true=>.node (T.put' o f l (n / 2)) v r
    | false=>.node l v (T.put' o f r (n / 2-1))
def T.put {α:Type} (t:T α) (n:Nat) (o:Option α):T α:=T.put' o (n+1) t n
inductive Cap where
 | ex (n:Nat)
 | op (esz:Nat)
 deriving DecidableEq,Inhabited
inductive V where
 | bool (b:Bool)
 | int (k:IntKind) (n:Int)
 | str (s:ByteArray)
 | ptr (b o:Nat)
 | nilp
 | sl (b o len:Nat) (cap:Cap)
 | nilsl
 | map (r:Nat)
 | nilmap
 | fn (f:Nat) (caps:List V)
 | nilfn
 | ifc (t:Nat) (v:V)
 | nilifc
 | agg (cs:List V)
 | tup (vs:List V)
 | dead
 deriving Inhabited
def V.undef:V:=.tup []
def V.cells:V->List V
 | .agg cs=>cs
 | v=>[v]
def V.one:V->Bool
 | .agg _ | .tup _ | .dead=>false
 | _=>true
mutual
def V.beq:V->V->Bool
 | .bool a,.bool b=>a == b
 | .int j a,.int k b=>decide (j=k) && decide (a=b)
 | .str a,.str b=>decide (a=b)
 | .ptr a b,.ptr c d=>Nat.beq a c && Nat.beq b d
 | .nilp,.nilp=>true
 | .sl a b c d,.sl e f g h=>Nat.beq a e && Nat.beq b f && Nat.beq c g && decide (d=h)
 | .nilsl,.nilsl=>true
 | .map a,.map b=>Nat.beq a b
 | .nilmap,.nilmap=>true
 | .fn a l,.fn b m=>Nat.beq a b && V.beqs l m
 | .nilfn,.nilfn=>true
 | .ifc a v,.ifc b w=>Nat.beq a b && V.beq v w
 | .nilifc,.nilifc=>true
 | .agg l,.agg m=>V.beqs l m
 | .tup l,.tup m=>V.beqs l m
 | _,_=>false
def V.beqs:List V->List V->Bool
 | [],[]=>true
 | a :: l,b :: m=>V.beq a b && V.beqs l m
 | _,_=>false
end
inductive Bk where
 | ro
 | rw
 | gr (esz:Nat)
 deriving DecidableEq
inductive Blk where
 | cells (cs:List V) (k:Bk)
 | map (es:List (V × V))
structure H where
 t:T Blk
 next:Nat
def H.get (h:H) (b:Nat):Option Blk:=h.t.get b
def H.put (h:H) (b:Nat) (x:Option Blk):H:={ h with t:=h.t.put b x }
def H.new (h:H) (x:Blk):H:={ t:=h.t.put h.next (some x),next:=h.next+1 }
def z07 (cs:List V) (o:Nat) (vs:List V):List V:=cs.take o ++ vs ++ cs.drop (o+vs.length)
def H.ld1 (h:H):V->Option V
 | .ptr b o=>match h.get b with
  | some (.cells cs _)=>match cs[o]? with
   | some v=>match V.one v with
    | true=>some v
    | false=>none
   | none=>none
  | _=>none
 | _=>none
def H.ldc (h:H) (b o n:Nat):Option (List V) :=
 match Nat.beq n 0 with
 | true=>some []
 | false=>match h.get b with
  | some (.cells cs _)=>match decide (o+n<=cs.length) with
   | true=>some ((cs.drop o).take n)
   | false=>none
  | _=>none
def H.ldN (h:H) (n:Nat):V->Option V
 | .ptr b o=>match h.ldc b o n with
  | some l=>some (.agg l)
  | none=>none
 | _=>none
def H.stc (h:H) (b o:Nat) (vs:List V):Option H :=
 match h.get b with
 | some (.cells cs k) =>
  match decide (k=.ro) || !(vs.all V.one) || !(decide (o+vs.length<=cs.length)) with
  | true=>none
  | false=>some (h.put b (some (.cells (z07 cs o vs) k)))
 | _=>none
def H.st (h:H) (n:Nat) (a x:V):Option H :=
 match a with
 | .ptr b o=>match Nat.beq x.cells.length n with
  | true=>h.stc b o x.cells
  | false=>none
 | _=>none
def wr:IntKind->Int->Int
 | .i64,n=>(n+9223372036854775808) % 18446744073709551616-9223372036854775808
 | .u64,n=>n % 18446744073709551616
 | .i32,n=>(n+2147483648) % 4294967296-2147483648
 | .u32,n=>n % 4294967296
 | .i16,n=>(n+32768) % 65536-32768
 | .u16,n=>n % 65536
 | .i8,n=>(n+128) % 256-128
 | .u8,n=>n % 256
def z02i:BinOp->Bool
 | .shl | .shr=>true
 | _=>false
def z08z:BinOp->Bool
 | .eql | .neq | .lss | .leq | .gtr | .geq=>true
 | _=>false
def cmpI:BinOp->Int->Int->Bool
 | .eql,a,b=>decide (a=b)
 | .neq,a,b=>!decide (a=b)
 | .lss,a,b=>decide (a<b)
 | .leq,a,b=>decide (a<=b)
 | .gtr,a,b=>decide (b<a)
 | _,a,b=>decide (b<=a)
def z08u (a b:Int):Int:=((BitVec.ofInt 64 a &&& BitVec.ofInt 64 b).toNat:Int)
def or64 (a b:Int):Int:=((BitVec.ofInt 64 a ||| BitVec.ofInt 64 b).toNat:Int)
def zy3 (a b:Int):Int:=((BitVec.ofInt 64 a ^^^ BitVec.ofInt 64 b).toNat:Int)
def z084 (a b:Int):Int:=((BitVec.ofInt 64 a &&& ~~~(BitVec.ofInt 64 b)).toNat:Int)
def arith (op:BinOp) (k:IntKind) (a b:Int):Option Int :=
 match op with
 | .add=>some (wr k (a+b))
 | .sub=>some (wr k (a-b))
 | .mul=>some (wr k (a * b))
 | .quo=>match decide (b=0) with
  | true=>none
  | false=>some (wr k (a.tdiv b))
 | .rem=>match decide (b=0) with
  | true=>none
  | false=>some (a.tmod b)
 | .and=>match k with
  | .u64=>some (z08u a b)
  | _=>none
 | .or=>match k with
  | .u64=>some (or64 a b)
  | _=>none
 | .andNot=>match k with
  | .u64=>some (z084 a b)
  | _=>none
 | .xor=>match k with
  | .u64=>some (zy3 a b)
  | _=>none
 | _=>none
def z0dw (left:Bool) (k:IntKind) (a b:Int):Option Int :=
 match decide (b<0) with
 | true=>none
 | false=>match left with
  | true=>some (wr k (a * 2 ^ (min b.toNat k.bits)))
  | false=>some (a / 2 ^ (min b.toNat k.bits))
def asI (k:IntKind):V->Option Int
 | .int j n=>match decide (j=k) with
  | true=>some n
  | false=>none
 | _=>none
def zaq:V->Option Int
 | .int _ n=>some n
 | _=>none
def asB:V->Option Bool
 | .bool b=>some b
 | _=>none
def asS:V->Option ByteArray
 | .str s=>some s
 | _=>none
inductive Ck where
 | bool | int | str
 deriving DecidableEq
def z79:Ck->V->V->Option Bool
 | .bool,.bool a,.bool b=>some (a == b)
 | .int,.int j a,.int k b=>match decide (j=k) with
  | true=>some (decide (a=b))
  | false=>none
 | .str,.str a,.str b=>some (a.toList == b.toList)
 | _,_,_=>none
def zdp (xs ys:List V):List (Nat × Ck)->Option Bool
 | []=>some true
 | o :: l=>match xs[o.1]?,ys[o.1]? with
  | some a,some b=>match z79 o.2 a b with
   | some true=>zdp xs ys l
   | some false=>some false
   | none=>none
  | _,_=>none
def z096:V->V->Option Bool
 | .nilp,.nilp=>some true
 | .nilp,.ptr _ _=>some false
 | .ptr _ _,.nilp=>some false
 | _,_=>none
def eqSl:V->V->Option Bool
 | .nilsl,.nilsl=>some true
 | .nilsl,.sl _ _ _ _=>some false
 | .sl _ _ _ _,.nilsl=>some false
 | _,_=>none
def z0ll:V->V->Option Bool
 | .nilmap,.nilmap=>some true
 | .nilmap,.map _=>some false
 | .map _,.nilmap=>some false
 | _,_=>none
def zod:V->V->Option Bool
 | .nilifc,.nilifc=>some true
 | .nilifc,.ifc _ _=>some false
 | .ifc _ _,.nilifc=>some false
 | _,_=>none
inductive Opd where
 | t (n:Nat)
 | c (v:V)
inductive Eq' where
 | bool | str | ptr | sl | ifc | map
 | agg (offs:List (Nat × Ck))
inductive AOp where
 | mov (x:Opd)
 | pick (c a b:Opd)
 | box (x:Opd)
 | alloc (cs:List V)
 | build (zero:List V) (parts:List (Nat × Nat × Opd))
 | buildSl (esz len:Nat) (zero:List V) (parts:List (Nat × Nat × Opd))
 | load1 (a:Opd)
 | loadN (n:Nat) (a:Opd)
 | store (n:Nat) (a x:Opd)
 | nilc (x:Opd)
 | arith (op:BinOp) (k:IntKind) (x y:Opd)
 | cmp (op:BinOp) (k:IntKind) (x y:Opd)
 | shift (left:Bool) (kx ky:IntKind) (x y:Opd)
 | eq (neg:Bool) (e:Eq') (x y:Opd)
 | not (x:Opd)
 | conv (k:IntKind) (x:Opd)
 | cat (x y:Opd)
 | bytesStr (x:Opd)
 | mkIfc (t:Nat) (x:Opd)
 | mkFn (f:Nat) (caps:List Opd)
 | mkMap
 | mkSl (esz bytes:Nat) (zero:List V) (len cap:Opd)
 | slice (esz:Nat) (x:Opd) (lo hi mx:Option Opd)
 | strSlice (x:Opd) (lo hi:Option Opd)
 | fieldA (off:Nat) (x:Opd)
 | field (off size:Nat) (agg:Bool) (x:Opd)
 | indexA (esz:Nat) (x i:Opd)
 | indexArr (n esz:Nat) (x i:Opd)
 | indexAgg (n esz:Nat) (agg:Bool) (x i:Opd)
 | indexStr (x i:Opd)
 | lookup (c:Ck) (zero:V) (ok:Bool) (m k:Opd)
 | mapSet (c:Ck) (m k x:Opd)
 | mapDel (c:Ck) (m k:Opd)
 | lenSl (x:Opd)
 | lenStr (x:Opd)
 | lenMap (x:Opd)
 | append (esz bytes:Nat) (s x:Opd)
 | copy (esz:Nat) (d s:Opd)
 | minmax (isMax:Bool) (k:IntKind) (x y:Opd)
 | extract (x:Opd) (i:Nat)
 | call (f:Nat) (args:List Opd)
 | callv (f:Opd) (args:List Opd)
 | invoke (m:Nat) (recv:Opd) (args:List Opd)
 | cloneM (x:Opd)
 | asrt (t:Nat) (x:Opd)
def AOp.opds:AOp->List Opd
 | .mov x | .box x | .load1 x | .loadN _ x | .nilc x | .not x | .conv _ x | .bytesStr x | .mkIfc _ x | .fieldA _ x | .field _ _ _ x | .lenSl x | .lenStr x | .lenMap x | .extract x _ | .cloneM x | .asrt _ x=>[x]
 | .pick c a b=>[c,a,b]
 | .alloc _ | .mkMap=>[]
 | .build _ ps | .buildSl _ _ _ ps=>ps.map fun p=>p.2.2
 | .store _ a x | .arith _ _ a x | .cmp _ _ a x | .shift _ _ _ a x | .eq _ _ a x | .cat a x | .indexA _ a x | .indexArr _ _ a x | .indexAgg _ _ _ a x | .indexStr a x | .lookup _ _ _ a x | .mapDel _ a x | .append _ _ a x | .copy _ a x | .minmax _ _ a x=>[a,x]
 | .mkFn _ l=>l
 | .mkSl _ _ _ a x=>[a,x]
 | .slice _ x lo hi mx=>x :: (lo.toList ++ hi.toList ++ mx.toList)
 | .strSlice x lo hi=>x :: (lo.toList ++ hi.toList)
 | .mapSet _ a b c=>[a,b,c]
 | .call _ l=>l
 | .callv f l=>f :: l
 | .invoke _ r l=>r :: l
def Opd.tmp:Opd->Option Nat
 | .t n=>some n
 | .c _=>none
def AOp.tmps (a:AOp):List Nat:=a.opds.filterMap Opd.tmp
structure Chk where
 g:Option (Nat × Bool)
 op:AOp
 d:Nat
structure AI where
 dst:Option Nat
 op:AOp
 chk:List Chk
inductive AIs where
 | nil
 | op (i:AI) (rest:AIs)
 | grd (g:Nat) (want:Bool) (body:List AI) (rest:AIs)
inductive AX where
 | normal
 | exit (id:Nat)
 | goto (l:Nat)
 | ret
 deriving DecidableEq
inductive ACode where
 | skip
 | ops (l:AIs)
 | seq (a b:ACode)
 | cond (c:Opd) (a b:ACode)
 | block (id:Nat) (a:ACode)
 | join (keep:List Nat) (out:List Nat) (a:ACode)
 | loop (keep:List Nat) (out:List Nat) (a:ACode)
 | scope (keep:List Nat) (out:List Nat) (a:ACode) (alts:ACode)
 | alt (l:Nat) (a:ACode) (more:ACode)
 | exit (id:Nat)
 | goto (l:Nat)
 | ret
inductive ARes where
 | tmp (t:Nat)
 | cell (agg:Bool) (n:Nat) (t:Nat)
structure AFunc where
 closed:Bool
 nparams:Nat
 ntmps:Nat
 results:List ARes
 body:ACode
def opd (env:List V):Opd->V
 | .t n=>env.getD n .undef
 | .c v=>v
def put (env:List V) (d:Option Nat) (v:V):List V :=
 match d with
 | some d=>env.set d v
 | none=>env
def boxc:V->Option (List V)
 | .dead=>none
 | .tup _=>none
 | v=>some v.cells
def fill (cs:List V) (env:List V):List (Nat × Nat × Opd)->Option (List V)
 | []=>some cs
 | (off,size,x) :: rest =>
  match boxc (opd env x) with
  | none=>none
  | some l=>match Nat.beq l.length size && decide (off+size<=cs.length) with
   | true=>fill (z07 cs off l) env rest
   | false=>none
def repl (zero:List V):Nat->List V
 | 0=>[]
 | n+1=>zero ++ repl zero n
def findKey (c:Ck) (k:V):List (V × V)->Option (Option V)
 | []=>some none
 | (a,v) :: l=>match z79 c k a with
  | some true=>some (some v)
  | some false=>findKey c k l
  | none=>none
def zpu (c:Ck) (k x:V):List (V × V)->Option (List (V × V))
 | []=>some [(k,x)]
 | (a,v) :: l=>match z79 c k a with
  | some true=>some ((k,x) :: l)
  | some false=>match zpu c k x l with
   | some l=>some ((a,v) :: l)
   | none=>none
  | none=>none
def zvz (c:Ck) (k:V):List (V × V)->Option (List (V × V))
 | []=>some []
 | (a,v) :: l=>match z79 c k a with
  | some true=>some l
  | some false=>match zvz c k l with
   | some l=>some ((a,v) :: l)
   | none=>none
  | none=>none
def zsr:Ck->V->Bool
 | .int,.int _ _ | .str,.str _ | .bool,.bool _=>true
 | _,_=>false
def H.entries (h:H):V->Option (List (V × V))
 | .nilmap=>some []
 | .map r=>match h.get r with
  | some (.map es)=>some es
  | _=>none
 | _=>none
def okd (ok:Bool) (v:V) (b:Bool):V:=match ok with
 | true=>.tup [v,.bool b]
 | false=>v
def H.look (h:H) (c:Ck) (zero:V) (ok:Bool) (m k:V):Option V :=
 match zsr c k with
 | false=>none
 | true=>match h.entries m with
  | none=>none
  | some es=>match findKey c k es with
   | none=>none
   | some (some v)=>some (okd ok v true)
   | some none=>some (okd ok zero false)
def H.mapSet (h:H) (c:Ck) (m k x:V):Option H :=
 match m,zsr c k with
 | .map r,true=>match h.get r with
  | some (.map es)=>match zpu c k x es with
   | some es=>some (h.put r (some (.map es)))
   | none=>none
  | _=>none
 | _,_=>none
def H.mapDel (h:H) (c:Ck) (m k:V):Option H :=
 match m,zsr c k with
 | .nilmap,true=>some h
 | .map r,true=>match h.get r with
  | some (.map es)=>match zvz c k es with
   | some es=>some (h.put r (some (.map es)))
   | none=>none
  | _=>none
 | _,_=>none
def H.cloneM (h:H):V->Option (V × H)
 | .ifc t (.map r)=>match h.get r with
  | some (.map es)=>some (.ifc t (.map h.next),h.new (.map es))
  | _=>none
 | _=>none
def z0hv (t:Nat):V->Option V
 | .ifc u v=>match Nat.beq u t with
  | true=>some v
  | false=>none
 | _=>none
def H.slc (h:H) (esz:Nat):V->Option (List V)
 | .nilsl=>some []
 | .sl b o n _=>h.ldc b o (n * esz)
 | _=>none
def lenSl:V->Option Nat
 | .nilsl=>some 0
 | .sl _ _ n _=>some n
 | _=>none
def H.append (h:H) (esz bytes:Nat) (s x:V):Option (V × H) :=
 match lenSl x,h.slc esz x,lenSl s,h.slc esz s with
 | some n,some new,some len,some old =>
  match new.all V.one && decide ((len+n+(len+n) / 2+1000) * bytes<=281474976710656) && decide (0<esz) && decide (0<bytes) with
  | false=>none
  | true =>
   match s with
   | .sl b o _ (.ex c) =>
    match decide (len+n<=c) with
    | true=>match h.stc b (o+len * esz) new with
     | some h=>some (.sl b o (len+n) (.ex c),h)
     | none=>none
    | false=>some (.sl h.next 0 (len+n) (.op esz),h.new (.cells (old ++ new) (.gr esz)))
   | .sl b _ _ (.op _)=>match h.get b with
    | some (.cells _ (.gr e))=>match Nat.beq e esz with
     | true=>some (.sl h.next 0 (len+n) (.op esz),(h.put b none).new (.cells (old ++ new) (.gr esz)))
     | false=>none
    | _=>none
   | _=>match Nat.beq n 0 with
    | true=>some (.nilsl,h)
    | false=>some (.sl h.next 0 (len+n) (.op esz),h.new (.cells (old ++ new) (.gr esz)))
 | _,_,_,_=>none
def H.copy (h:H) (esz:Nat) (d s:V):Option (V × H) :=
 match lenSl d,lenSl s with
 | some n,some m =>
  match Nat.beq (min m n) 0 with
  | true=>some (.int .i64 0,h)
  | false=>match s,d with
   | .sl b o _ _,.sl c p _ _=>match h.ldc b o (min m n * esz) with
    | some l=>match h.stc c p l with
     | some h=>some (.int .i64 (min m n:Nat),h)
     | none=>none
    | none=>none
   | _,_=>none
 | _,_=>none
def H.mkSl (h:H) (esz bytes:Nat) (zero:List V) (len cap:Int):Option (V × H) :=
 match decide (0<=len) && decide (len<=cap) && decide (cap * bytes<=140737488355328) && decide (cap<=9223372036854775807) && Nat.beq zero.length esz && decide (0<esz) with
 | true=>some (.sl h.next 0 len.toNat (.ex cap.toNat),h.new (.cells (repl zero cap.toNat) .rw))
 | false=>none
def bound (y:Nat) (v:V):Option Nat :=
 match zaq v with
 | some i=>match decide (0<=i) && decide (i<=(y:Int)) with
  | true=>some i.toNat
  | false=>none
 | none=>none
def z2q (d y:Nat):Option V->Option Nat
 | none=>some d
 | some v=>bound y v
def zgq (esz:Nat) (x:V) (lo hi mx:Option V):Option V :=
 match x with
 | .nilsl=>match z2q 0 0 mx,z2q 0 0 hi,z2q 0 0 lo with
  | some _,some _,some _=>some .nilsl
  | _,_,_=>none
 | .sl b o len (.ex c) =>
  match z2q c c mx with
  | none=>none
  | some m=>match z2q len m hi with
   | none=>none
   | some h=>match z2q 0 h lo with
    | none=>none
    | some l=>some (.sl b (match Nat.beq m l with | true=>o | false=>o+l * esz) (h-l) (.ex (m-l)))
 | .sl b o len (.op z) =>
  match Nat.beq z esz with
  | false=>none
  | true=>match mx with
   | none=>match z2q len len hi with
    | none=>none
    | some h=>match z2q 0 h lo with
     | none=>none
     | some l=>some (.sl b (o+l * esz) (h-l) (.op esz))
   | some _=>match z2q len len mx,Nat.beq len 0 with
    | some m,false=>match z2q len m hi with
     | none=>none
     | some h=>match z2q 0 h lo with
      | none=>none
      | some l=>some (.sl b (match Nat.beq m l with | true=>o | false=>o+l * esz) (h-l) (.ex (m-l)))
    | _,_=>none
 | _=>none
def z066 (x:V) (lo hi:Option V):Option V :=
 match x with
 | .str s=>match z2q s.size s.size hi with
  | none=>none
  | some h=>match z2q 0 h lo with
   | none=>none
   | some l=>some (.str (s.extract l h))
 | _=>none
def part (agg:Bool) (cs:List V) (off size:Nat):Option V :=
 match agg with
 | true=>some (.agg ((cs.drop off).take size))
 | false=>cs[off]?
def zkk (n:Nat) (v:V):Option Nat :=
 match zaq v with
 | some i=>match decide (0<=i) && decide (i<(n:Int)) with
  | true=>some i.toNat
  | false=>none
 | none=>none
def za:V->Nat->Option V
 | .ptr b o,n=>some (.ptr b (o+n))
 | _,_=>none
def z0 (esz:Nat) (x i:V):Option V :=
 match x with
 | .sl b o n _=>match zkk n i with
  | some j=>some (.ptr b (o+j * esz))
  | none=>none
 | _=>none
def z8n:V->Option (List V)
 | .agg cs=>some cs
 | _=>none
def nilc:V->Option V
 | .ptr b o=>some (.ptr b o)
 | .fn f c=>some (.fn f c)
 | .ifc t v=>some (.ifc t v)
 | _=>none
def eqV (e:Eq') (x y:V):Option Bool :=
 match e with
 | .bool=>match x,y with
  | .bool a,.bool b=>some (a == b)
  | _,_=>none
 | .str=>match x,y with
  | .str a,.str b=>some (a.toList == b.toList)
  | _,_=>none
 | .ptr=>z096 x y
 | .sl=>eqSl x y
 | .ifc=>zod x y
 | .map=>z0ll x y
 | .agg offs=>match x,y with
  | .agg xs,.agg ys=>zdp xs ys offs
  | _,_=>none
def z0hw (neg b:Bool):Bool:=match neg with
 | true=>!b
 | false=>b
def bytesOf:List V->Option (List UInt8)
 | []=>some []
 | .int .u8 n :: l=>match bytesOf l with
  | some r=>some (UInt8.ofNat n.toNat :: r)
  | none=>none
 | _ :: _=>none
structure Env where
 call:Nat->List V->H->Option (V × H)
 loop:(List V->H->Option (AX × List V × H))->List V->H->Option (AX × List V × H)
 scope:(Nat->List V->H->Option (AX × List V × H))->Nat->List V->H->Option (AX × List V × H)
 meth:Nat->Nat->Option Nat
section
variable (M:Env)
def step {R:Type} (op:AOp) (env:List V) (h:H) (k:V->H->Option R):Option R :=
 match op with
 | .mov x=>k (opd env x) h
 | .pick c a b=>(asB (opd env c)).bind fun c=>k (match c with | true=>opd env a | false=>opd env b) h
 | .box x=>(boxc (opd env x)).bind fun cs=>k (.ptr h.next 0) (h.new (.cells cs .rw))
 | .alloc cs=>k (.ptr h.next 0) (h.new (.cells cs .rw))
 | .build zero parts=>(fill zero env parts).bind fun cs=>k (.agg cs) h
 | .buildSl esz len zero parts=>match Nat.beq zero.length esz && decide (0<esz) with
  | true=>(fill (repl zero len) env parts).bind fun cs=>k (.sl h.next 0 len (.ex len)) (h.new (.cells cs .rw))
  | false=>none
 | .load1 a=>(h.ld1 (opd env a)).bind fun v=>k v h
 | .loadN n a=>(h.ldN n (opd env a)).bind fun v=>k v h
 | .store n a x=>(h.st n (opd env a) (opd env x)).bind fun h=>k .undef h
 | .nilc x=>(nilc (opd env x)).bind fun v=>k v h
 | .arith op kd x y=>(asI kd (opd env x)).bind fun a=>(asI kd (opd env y)).bind fun b=>(arith op kd a b).bind fun n=>k (.int kd n) h
 | .cmp op kd x y=>(asI kd (opd env x)).bind fun a=>(asI kd (opd env y)).bind fun b=>k (.bool (cmpI op a b)) h
 | .shift left kx ky x y=>(asI kx (opd env x)).bind fun a=>(asI ky (opd env y)).bind fun b=>(z0dw left kx a b).bind fun n=>k (.int kx n) h
 | .eq neg e x y=>(eqV e (opd env x) (opd env y)).bind fun b=>k (.bool (z0hw neg b)) h
 | .not x=>(asB (opd env x)).bind fun b=>k (.bool (!b)) h
 | .conv kd x=>(zaq (opd env x)).bind fun n=>k (.int kd (wr kd n)) h
 | .cat x y=>(asS (opd env x)).bind fun a=>(asS (opd env y)).bind fun b=>match decide (a.size+b.size<=9223372036854775807) with
  | true=>k (.str (a ++ b)) h
  | false=>none
 | .bytesStr x=>(h.slc 1 (opd env x)).bind fun l=>(bytesOf l).bind fun l=>k (.str ⟨l.toArray⟩) h
 | .mkIfc t x=>k (.ifc t (opd env x)) h
 | .mkFn f caps=>k (.fn f (caps.map (opd env))) h
 | .mkMap=>k (.map h.next) (h.new (.map []))
 | .mkSl esz bytes zero len cap=>(asI .i64 (opd env len)).bind fun l=>(asI .i64 (opd env cap)).bind fun c=>(h.mkSl esz bytes zero l c).bind fun p=>k p.1 p.2
 | .slice esz x lo hi mx=>(zgq esz (opd env x) (lo.map (opd env)) (hi.map (opd env)) (mx.map (opd env))).bind fun v=>k v h
 | .strSlice x lo hi=>(z066 (opd env x) (lo.map (opd env)) (hi.map (opd env))).bind fun v=>k v h
 | .fieldA off x=>(za (opd env x) off).bind fun v=>k v h
 | .field off size agg x=>(z8n (opd env x)).bind fun cs=>(part agg cs off size).bind fun v=>k v h
 | .indexA esz x i=>(z0 esz (opd env x) (opd env i)).bind fun v=>k v h
 | .indexArr n esz x i=>(zkk n (opd env i)).bind fun j=>(za (opd env x) (j * esz)).bind fun v=>k v h
 | .indexAgg n esz agg x i=>(z8n (opd env x)).bind fun cs=>(zkk n (opd env i)).bind fun j=>(part agg cs (j * esz) esz).bind fun v=>k v h
 | .indexStr x i=>(asS (opd env x)).bind fun s=>(zkk s.size (opd env i)).bind fun j=>k (.int .u8 (s.get! j).toNat) h
 | .lookup c zero ok m key=>(h.look c zero ok (opd env m) (opd env key)).bind fun v=>k v h
 | .mapSet c m key x=>(h.mapSet c (opd env m) (opd env key) (opd env x)).bind fun h=>k .undef h
 | .mapDel c m key=>(h.mapDel c (opd env m) (opd env key)).bind fun h=>k .undef h
 | .lenSl x=>(lenSl (opd env x)).bind fun n=>k (.int .i64 n) h
 | .lenStr x=>(asS (opd env x)).bind fun s=>k (.int .i64 s.size) h
 | .lenMap x=>(h.entries (opd env x)).bind fun es=>k (.int .i64 es.length) h
 | .append esz bytes s x=>(h.append esz bytes (opd env s) (opd env x)).bind fun p=>k p.1 p.2
 | .copy esz d s=>(h.copy esz (opd env d) (opd env s)).bind fun p=>k p.1 p.2
 | .minmax isMax kd x y=>(asI kd (opd env x)).bind fun a=>(asI kd (opd env y)).bind fun b=>k (.int kd (match isMax with | true=>max a b | false=>min a b)) h
 | .extract x i=>match opd env x with
  | .tup vs=>(vs[i]?).bind fun v=>k v h
  | _=>none
 | .call f args=>(M.call f (args.map (opd env)) h).bind fun p=>k p.1 p.2
 | .callv f args=>match opd env f with
  | .fn f caps=>(M.call f (args.map (opd env) ++ caps) h).bind fun p=>k p.1 p.2
  | _=>none
 | .invoke m recv args=>match opd env recv with
  | .ifc t v=>(M.meth t m).bind fun f=>(M.call f (v :: args.map (opd env)) h).bind fun p=>k p.1 p.2
  | _=>none
 | .cloneM x=>(h.cloneM (opd env x)).bind fun p=>k p.1 p.2
 | .asrt t x=>(z0hv t (opd env x)).bind fun v=>k v h
def AOp.again (env:List V) (h:H):AOp->Option V
 | .load1 a=>h.ld1 (opd env a)
 | .loadN n a=>h.ldN n (opd env a)
 | .lookup c z ok m key=>h.look c z ok (opd env m) (opd env key)
 | .lenMap x=>match h.entries (opd env x) with
  | some es=>some (.int .i64 es.length)
  | none=>none
 | _=>none
def same (env:List V) (d:Nat):Option V->Bool
 | some v=>match env[d]? with
  | some u=>V.beq v u
  | none=>false
 | none=>false
def Chk.ok (env:List V) (h:H) (c:Chk):Bool :=
 match c.g with
 | none=>same env c.d (c.op.again env h)
 | some (g,want)=>match env.getD g .undef with
  | .bool b=>match b == want with
   | true=>same env c.d (c.op.again env h)
   | false=>true
  | .tup []=>true
  | _=>false
def chks {R:Type} (env:List V) (h:H) (k:Option R):List Chk->Option R
 | []=>k
 | c :: l=>match c.ok env h with
  | true=>chks env h k l
  | false=>none
def zmj {R:Type} (i:AI) (env:List V) (h:H) (k:List V->H->Option R):Option R :=
 step M i.op env h fun v h=>chks env h (k (put env i.dst v) h) i.chk
def zfy {R:Type}:List AI->List V->H->(List V->H->Option R)->Option R
 | [],env,h,k=>k env h
 | i :: rest,env,h,k=>zmj M i env h fun env h=>zfy rest env h k
def undefs:List AI->List V->List V
 | [],env=>env
 | i :: rest,env=>undefs rest (put env i.dst .undef)
def z1y {R:Type}:AIs->List V->H->(List V->H->Option R)->Option R
 | .nil,env,h,k=>k env h
 | .op i rest,env,h,k=>zmj M i env h fun env h=>z1y rest env h k
 | .grd g want body rest,env,h,k =>
  match env.getD g .undef with
  | .bool true=>match want with
   | true=>zfy M body (env.set g (.bool true)) h fun env h=>z1y rest env h k
   | false=>z1y rest (undefs body (env.set g (.bool true))) h k
  | .bool false=>match want with
   | false=>zfy M body (env.set g (.bool false)) h fun env h=>z1y rest env h k
   | true=>z1y rest (undefs body (env.set g (.bool false))) h k
  | .tup []=>z1y rest (undefs body env) h k
  | _=>none
def z00 (keep:List Nat):Nat->List V->List V
 | _,[]=>[]
 | n,v :: l=>(match keep.contains n with | true=>v | false=>.dead) :: z00 keep (n+1) l
mutual
def z0i {R:Type}:ACode->List V->H->(AX->List V->H->Option R)->Option R
 | .skip,env,h,k=>k .normal env h
 | .ops l,env,h,k=>z1y M l env h fun env h=>k .normal env h
 | .seq a b,env,h,k=>z0i a env h fun x env h=>match x with
  | .normal=>z0i b env h k
  | x=>k x env h
 | .cond c a b,env,h,k=>(asB (opd env c)).bind fun c=>match c with
  | true=>z0i a env h k
  | false=>z0i b env h k
 | .block id a,env,h,k=>z0i a env h fun x env h=>match x with
  | .exit j=>match Nat.beq j id with
   | true=>k .normal env h
   | false=>k (.exit j) env h
  | x=>k x env h
 | .join keep out a,env,h,k =>
  (z0i a (z00 keep 0 env) h fun x env h=>some (x,z00 out 0 env,h)).bind fun p=>k p.1 p.2.1 p.2.2
 | .loop keep out a,env,h,k =>
  (M.loop (fun env h=>z0i a env h fun x env h=>match x with
   | .normal=>some (.normal,z00 keep 0 env,h)
   | x=>some (x,z00 out 0 env,h)) (z00 keep 0 env) h).bind fun p=>k p.1 p.2.1 p.2.2
 | .scope keep out a alts,env,h,k =>
  (M.scope (fun l env h=>match l with
   | 0=>z0i a env h fun x env h=>match x with
    | .goto j=>some (.goto j,z00 keep 0 env,h)
    | x=>some (x,z00 out 0 env,h)
   | l+1=>z10 alts l env h fun x env h=>match x with
    | .goto j=>some (.goto j,z00 keep 0 env,h)
    | x=>some (x,z00 out 0 env,h)) 0 env h).bind fun p=>k p.1 p.2.1 p.2.2
 | .alt _ _ _,_,_,_=>none
 | .exit id,env,h,k=>k (.exit id) env h
 | .goto l,env,h,k=>k (.goto l) env h
 | .ret,env,h,k=>k .ret env h
def z10 {R:Type}:ACode->Nat->List V->H->(AX->List V->H->Option R)->Option R
 | .alt l a more,n,env,h,k=>match Nat.beq n l with
  | true=>z0i a env h k
  | false=>z10 more n env h k
 | _,_,_,_,_=>none
end
def z010 (env:List V) (h:H):ARes->Option V
 | .tmp t=>some (env.getD t .undef)
 | .cell agg n t=>match agg with
  | true=>h.ldN n (env.getD t .undef)
  | false=>h.ld1 (env.getD t .undef)
def ztc (env:List V) (h:H):List ARes->Option (List V)
 | []=>some []
 | r :: l=>match z010 env h r with
  | some v=>match ztc env h l with
   | some vs=>some (v :: vs)
   | none=>none
  | none=>none
def z48 (vs:List V):V:=match vs with
 | [v]=>v
 | vs=>.tup vs
def und:Nat->List V
 | 0=>[]
 | n+1=>.undef :: und n
def fin (f:AFunc) (x:AX) (env:List V) (h:H):Option (V × H) :=
 match x with
 | .normal | .ret=>match ztc env h f.results with
  | some vs=>some (z48 vs,h)
  | none=>none
 | _=>none
def z06 (f:AFunc) (args:List V) (h:H):Option (V × H) :=
 match Nat.beq args.length f.nparams with
 | true=>z0i M f.body (args ++ und (f.ntmps-args.length)) h fun x env h=>fin f x env h
 | false=>none
end
mutual
def V.flat:V->Bool
 | .ptr _ _ | .sl _ _ _ _ | .map _ | .dead=>false
 | .fn _ l=>V.flats l
 | .ifc _ v=>V.flat v
 | .agg l=>V.flats l
 | .tup l=>V.flats l
 | _=>true
def V.flats:List V->Bool
 | []=>true
 | v :: l=>V.flat v && V.flats l
end
def H.empty:H:={ t:=.leaf,next:=0 }
def zeq (M:Env) (f:AFunc) (args:List V) (h:H):Option (V × H) :=
 match f.closed with
 | false=>z06 M f args h
 | true=>match V.flats args with
  | true=>(z06 M f args .empty).bind fun p=>match V.flat p.1 with
   | true=>some (p.1,h)
   | false=>none
  | false=>none
def z5x (body:List V->H->Option (AX × List V × H)):Nat->List V->H->Option (AX × List V × H)
 | 0,_,_=>none
 | n+1,env,h=>match body env h with
  | some (.normal,env,h)=>z5x body n env h
  | r=>r
def z35 (body:Nat->List V->H->Option (AX × List V × H)):Nat->Nat->List V->H->Option (AX × List V × H)
 | 0,_,_,_=>none
 | n+1,l,env,h=>match body l env h with
  | some (.goto j,env,h)=>z35 body n (j+1) env h
  | r=>r
def run (prog:Nat->Option AFunc) (meth:Nat->Nat->Option Nat) (rounds:Nat):Nat->Nat->List V->H->Option (V × H)
 | 0,_,_,_=>none
 | n+1,f,args,h=>match prog f with
  | some af=>zeq { call:=run prog meth rounds n,loop:=fun body env h=>z5x body rounds env h,scope:=fun body l env h=>z35 body rounds l env h,meth } af args h
  | none=>none
end Wm
