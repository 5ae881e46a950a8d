/- From the model's code to my abstract machine's: operations without types, regions in one order. -/
import Derived.Test.YthkimcdeejjmbaaWmCore
import GoSem.Core.Layout
import GoSem.Op.Equal
import GoSem.Core.Region
set_option linter.all false
namespace Wm
open Go (IntKind BinOp Program TypeId FuncId Value Oper Operand Func Code TypeDesc)
structure Tab where
 fn:List (Nat × Nat)
 ty:List (Nat × Nat)
 meth:List (String × Nat)
def zbg (l:List (Nat × Nat)) (n:Nat):Option Nat :=
 match l with
 | []=>none
 | (a,b) :: l=>match Nat.beq a n with
  | true=>some b
  | false=>zbg l n
def z06l (l:List (String × Nat)) (s:String):Option Nat :=
 match l with
 | []=>none
 | (a,b) :: l=>match a == s with
  | true=>some b
  | false=>z06l l s
def z6d {α:Type}:List (Option α)->Option (List α)
 | []=>some []
 | some a :: l=>match z6d l with
  | some l=>some (a :: l)
  | none=>none
 | none :: _=>none
def cvN:Nat->Value->Option V
 | 0,_=>none
 | n+1,v=>match v with
  | .bool b=>some (.bool b)
  | .int k n=>some (.int k n)
  | .string s=>some (.str s)
  | .pointer none=>some .nilp
  | .slice none 0 0=>some .nilsl
  | .map none=>some .nilmap
  | .nilFunc=>some .nilfn
  | .nilIface=>some .nilifc
  | .agg cs=>match z6d (cs.toList.map (cvN n)) with
   | some l=>some (.agg l)
   | none=>none
  | .tuple cs=>match z6d (cs.toList.map (cvN n)) with
   | some l=>some (.tup l)
   | none=>none
  | _=>none
def cv (v:Value):Option V:=cvN 5 v
section
variable (P:Program) (tab:Tab)
def cOpd:Operand->Option Opd
 | .tmp t=>some (.t t)
 | .const v=>(cv v).map .c
 | .func f=>(zbg tab.fn f).map fun f=>.c (.fn f [])
 | .global _=>none
def zo1 (l:List Operand):Option (List Opd):=z6d (l.map (cOpd tab))
def z06f (t:TypeId):Option V:=(P.info? t).bind fun i=>i.zero.bind cv
def zeroCells (t:TypeId):Option (List V):=(z06f P t).bind boxc
def z5u (t:TypeId):Bool:=match P.underlying t with
 | some (.struct _) | some (.array _ _)=>true
 | _=>false
def zm0:Nat->TypeId->Option (List (Nat × Ck))
 | 0,_=>none
 | d+1,t=>match P.underlying t with
  | some .bool=>some [(0,.bool)]
  | some (.int _)=>some [(0,.int)]
  | some .string=>some [(0,.str)]
  | some (.struct fs)=>match P.stoodInHeld t with
   | true=>none
   | false=>(z6d (fs.toList.map fun f=>match f.name == "_" with
    | true=>none
    | false=>(zm0 d f.type).bind fun l=>match l.all (fun o=>decide (o.1<P.cellsOf f.type)) with
     | true=>some (l.map fun o=>(o.1+f.offset,o.2))
     | false=>none)).map List.flatten
  | _=>none
def z014 (t:TypeId):Option Ck:=match P.underlying t with
 | some .bool=>some .bool
 | some (.int _)=>some .int
 | some .string=>some .str
 | _=>none
def z51:AOp:=.extract (.c .undef) 0
def zt4:Operand->Bool
 | .const _=>true
 | _=>false
def zlk (f:FuncId):Bool:=match P.funcs[f]? with
 | some fn=>fn.body.isSome && fn.name != "runtime.NumGoroutine"
 | none=>false
def z07g (f:FuncId):Bool:=match P.funcs[f]? with
 | some fn=>fn.body.isNone && fn.name == "maps.clone" && fn.origin == ""
 | none=>false
def cBin (op:BinOp) (xt:TypeId) (x y:Operand) (yt:TypeId):Option AOp :=
 (cOpd tab x).bind fun a=>(cOpd tab y).bind fun b =>
 match P.underlying xt with
 | some (.int k) =>
  match z02i op with
  | true=>match P.underlying yt with
   | some (.int ky)=>some (.shift (op == .shl) k ky a b)
   | _=>none
  | false=>match z08z op with
   | true=>some (.cmp op k a b)
   | false=>some (.arith op k a b)
 | some .bool=>match op with
  | .eql=>some (.eq false .bool a b)
  | .neq=>some (.eq true .bool a b)
  | _=>none
 | some .string=>match op with
  | .eql=>some (.eq false .str a b)
  | .neq=>some (.eq true .str a b)
  | .add=>some (.cat a b)
  | _=>none
 | some (.pointer _)=>match op with
  | .eql=>some (.eq false .ptr a b)
  | .neq=>some (.eq true .ptr a b)
  | _=>none
 | some (.slice _)=>match op with
  | .eql=>some (.eq false .sl a b)
  | .neq=>some (.eq true .sl a b)
  | _=>none
 | some (.map _ _)=>match op with
  | .eql=>some (.eq false .map a b)
  | .neq=>some (.eq true .map a b)
  | _=>none
 | some (.interface _)=>match zt4 x || zt4 y,op with
  | true,.eql=>some (.eq false .ifc a b)
  | true,.neq=>some (.eq true .ifc a b)
  | _,_=>none
 | some (.struct _)=>match P.eqGuardType P.depth xt with
  | true=>none
  | false=>(zm0 P 6 xt).bind fun offs=>match op with
   | .eql=>some (.eq false (.agg offs) a b)
   | .neq=>some (.eq true (.agg offs) a b)
   | _=>none
 | _=>none
def zwo (places:Nat->Option (Nat × Nat)) (parts:List (Nat × Operand)):Option (List (Nat × Nat × Opd)) :=
 z6d (parts.map fun p=>(places p.1).bind fun q=>(cOpd tab p.2).map fun x=>(q.1,q.2,x))
def z0er (b:Go.Builtin) (args:List Operand) (tys:List TypeId):Option AOp :=
 (zo1 tab args).bind fun xs =>
 match b,xs,tys with
 | .len,[x],[t]=>match P.underlying t with
  | some .string=>some (.lenStr x)
  | some (.slice _)=>some (.lenSl x)
  | some (.map _ _)=>some (.lenMap x)
  | _=>none
 | .append,[s,x],[t,u]=>match P.underlying t,P.underlying u with
  | some (.slice e),some (.slice _)=>(P.info? e).bind fun i=>(zeroCells P e).bind fun z=>match Nat.beq z.length i.size with
   | true=>some (.append i.size i.bytes s x)
   | false=>none
  | _,_=>none
 | .copy,[s,x],[t,u]=>match P.underlying t,P.underlying u with
  | some (.slice e),some (.slice _)=>(P.info? e).map fun _=>.copy (P.cellsOf e) s x
  | _,_=>none
 | .delete,[m,k],[t,_]=>match P.underlying t with
  | some (.map key _)=>(z014 P key).map fun c=>.mapDel c m k
  | _=>none
 | .min,[x,y],t :: _=>match P.underlying t with
  | some (.int k)=>some (.minmax false k x y)
  | _=>none
 | .max,[x,y],t :: _=>match P.underlying t with
  | some (.int k)=>some (.minmax true k x y)
  | _=>none
 | _,_,_=>none
def cOp (o:Oper):Option AOp :=
 match o.op with
 | .move x | .assign x=>(cOpd tab x).map .mov
 | .pick c a b=>(cOpd tab c).bind fun c=>(cOpd tab a).bind fun a=>(cOpd tab b).map fun b=>.pick c a b
 | .alloc e=>(zeroCells P e).map .alloc
 | .box _ x=>(cOpd tab x).map .box
 | .build t parts=>(zeroCells P t).bind fun z=>match P.underlying t with
  | some (.struct fs)=>match fs.toList.all fun f=>(P.info? f.type).isSome with
   | true=>(zwo tab (fun i=>fs[i]?.map fun f=>(f.offset,P.cellsOf f.type)) parts.toList).map (.build z)
   | false=>none
  | some (.array _ e)=>(P.info? e).bind fun _=>(zwo tab (fun i=>some (i * P.cellsOf e,P.cellsOf e)) parts.toList).map (.build z)
  | _=>none
 | .buildSlice t len parts=>match P.underlying t with
  | some (.slice e)=>match decide (len * P.cellsOf e<=1000) with
   | true=>(zeroCells P e).bind fun z=>(zwo tab (fun i=>some (i * P.cellsOf e,P.cellsOf e)) parts.toList).map (.buildSl (P.cellsOf e) len z)
   | false=>none
  | _=>none
 | .load t a=>(cOpd tab a).bind fun a=>(P.underlying t).map fun _=>match z5u P t with
  | true=>.loadN (P.cellsOf t) a
  | false=>.load1 a
 | .store t a x=>(cOpd tab a).bind fun a=>(cOpd tab x).bind fun x=>(P.underlying t).map fun _=>.store (P.cellsOf t) a x
 | .nilCheck x=>(cOpd tab x).map .nilc
 | .binOp op xt x y yt=>cBin P tab op xt x y yt
 | .unOp .not _ x=>(cOpd tab x).map .not
 | .convert src dst x=>(cOpd tab x).bind fun a=>match P.underlying src,P.underlying dst with
  | some (.int _),some (.int k)=>some (.conv k a)
  | _,_=>none
 | .makeInterface t x=>match P.underlying t with
  | none | some (.interface _)=>none
  | some _=>(zbg tab.ty t).bind fun t=>(cOpd tab x).map (.mkIfc t)
 | .makeFunc (.func f) first captured=>match first.size,zlk P f with
  | 0,true=>(zbg tab.fn f).bind fun f=>(zo1 tab captured.toList).map (.mkFn f)
  | _,_=>none
 | .makeMap t none=>match P.underlying t with
  | some (.map _ _)=>some .mkMap
  | _=>none
 | .makeSlice t l c=>match P.underlying t with
  | some (.slice e)=>(P.info? e).bind fun i=>(zeroCells P e).bind fun z=>(cOpd tab l).bind fun l=>(cOpd tab c).map fun c=>.mkSl i.size i.bytes z l c
  | _=>none
 | .slice t x lo hi mx=>(cOpd tab x).bind fun x =>
  (match lo with | none=>some none | some a=>(cOpd tab a).map some).bind fun lo =>
  (match hi with | none=>some none | some a=>(cOpd tab a).map some).bind fun hi =>
  (match mx with | none=>some none | some a=>(cOpd tab a).map some).bind fun mx =>
  match P.underlying t,mx with
  | some (.slice e),mx=>match mx.isSome && hi.isNone with
   | true=>none
   | false=>(P.info? e).map fun _=>.slice (P.cellsOf e) x lo hi mx
  | some .string,none=>some (.strSlice x lo hi)
  | _,_=>none
 | .fieldAddr s x i=>match P.underlying s with
  | some (.struct fs)=>fs[i]?.bind fun f=>match Nat.beq (P.cellsOf f.type) 0 with
   | true=>none
   | false=>(cOpd tab x).map (.fieldA f.offset)
  | _=>none
 | .field t x i=>match P.underlying t with
  | some (.struct fs)=>fs[i]?.bind fun f=>(P.underlying f.type).bind fun _=>(cOpd tab x).map (.field f.offset (P.cellsOf f.type) (z5u P f.type))
  | _=>none
 | .indexAddr t x i=>(cOpd tab x).bind fun x=>(cOpd tab i).bind fun i=>match P.underlying t with
  | some (.slice e)=>(P.info? e).map fun _=>.indexA (P.cellsOf e) x i
  | some (.array n e)=>(P.info? e).map fun _=>.indexArr n (P.cellsOf e) x i
  | _=>none
 | .index t x i=>(cOpd tab x).bind fun x=>(cOpd tab i).bind fun i=>match P.underlying t with
  | some (.array n e)=>(P.underlying e).map fun _=>.indexAgg n (P.cellsOf e) (z5u P e) x i
  | some .string=>some (.indexStr x i)
  | _=>none
 | .lookup t m k ok=>(cOpd tab m).bind fun m=>(cOpd tab k).bind fun k=>match P.underlying t with
  | some (.map key e)=>(z014 P key).bind fun c=>(z06f P e).map fun z=>.lookup c z ok m k
  | _=>none
 | .mapUpdate t m k x=>(cOpd tab m).bind fun m=>(cOpd tab k).bind fun k=>(cOpd tab x).bind fun x=>match P.underlying t with
  | some (.map key _)=>(z014 P key).map fun c=>.mapSet c m k x
  | _=>none
 | .extract x i=>(cOpd tab x).map fun x=>.extract x i
 | .call c=>match c.callee with
  | .value (.func f)=>match zlk P f with
   | true=>(zbg tab.fn f).bind fun f=>(zo1 tab c.args.toList).map (.call f)
   | false=>match z07g P f with
    | true=>(zo1 tab c.args.toList).bind fun l=>match l with
     | [x]=>some (.cloneM x)
     | _=>none
    | false=>none
  | .value x=>(cOpd tab x).bind fun x=>(zo1 tab c.args.toList).map (.callv x)
  | .invoke r m=>(z06l tab.meth m).bind fun m=>(cOpd tab r).bind fun r=>(zo1 tab c.args.toList).map (.invoke m r)
  | .builtin b=>z0er P tab b c.args.toList c.argTypes.toList
 | .typeAssert x _ t ok=>match ok,P.underlying t with
  | false,some d=>match (match d with | .interface _=>true | _=>false) with
   | true=>none
   | false=>(zbg tab.ty t).bind fun t'=>match tab.ty.all fun p=>!Nat.beq p.2 t' || Nat.beq p.1 t with
    | true=>(cOpd tab x).map (.asrt t')
    | false=>none
  | _,_=>none
 | _=>none
def cOpF (o:Oper):AOp:=(cOp P tab o).getD z51
inductive Cls where
 | pure | read | alloc | eff
 deriving DecidableEq
def AOp.cls:AOp->Cls
 | .load1 _ | .loadN _ _ | .lookup _ _ _ _ _ | .lenMap _ | .bytesStr _=>.read
 | .box _ | .alloc _ | .buildSl _ _ _ _ | .mkMap | .mkSl _ _ _ _ _=>.alloc
 | .store _ _ _ | .mapSet _ _ _ _ | .mapDel _ _ _ | .append _ _ _ _ | .copy _ _ _ | .call _ _ | .callv _ _ | .invoke _ _ _ | .cloneM _=>.eff
 | _=>.pure
def zgt (bs:List Nat) (i j:Nat):Bool:=(bs.getD j 0).testBit i
def z011 (p:Nat->Bool):List Nat->Option Nat
 | []=>none
 | i :: l=>match p i with
  | true=>some i
  | false=>z011 p l
def zvv (bs:List Nat) (cl:List Cls):Nat->Nat->List Nat->List Nat
 | 0,_,_=>[]
 | n+1,done,left =>
  let ready:=fun i=>Nat.beq ((bs.getD i 0) &&& done) (bs.getD i 0)
  let pr:=fun i=>ready i && (match cl.getD i .pure with | .pure | .read=>true | _=>false)
  let ef:=fun i=>ready i && (match cl.getD i .pure with | .eff=>true | _=>false)
  match z011 pr left with
  | some i=>i :: zvv bs cl n (done ||| 2 ^ i) (left.filter fun j=>!Nat.beq i j)
  | none=>match z011 ef left with
   | some i=>i :: zvv bs cl n (done ||| 2 ^ i) (left.filter fun j=>!Nat.beq i j)
   | none=>match z011 ready left with
    | some i=>i :: zvv bs cl n (done ||| 2 ^ i) (left.filter fun j=>!Nat.beq i j)
    | none=>[]
def zj7 (ops:List Oper) (o:Oper):List Nat:=match o.guard with
 | some (j,_)=>((ops[j]?).bind (·.dst)).toList
 | none=>[]
def z03b (a:Option Nat) (l:List Nat):Bool:=match a with
 | some d=>l.contains d
 | none=>false
def z07l (ops:List Oper) (as:List AOp) (i j:Nat):Bool :=
 match ops[i]?,ops[j]? with
 | some a,some b =>
  !z03b a.dst (b.dst.toList ++ (as.getD j z51).tmps ++ zj7 ops b) && !z03b b.dst ((as.getD i z51).tmps ++ zj7 ops a) &&
  (match (as.getD i z51).cls,(as.getD j z51).cls with
   | .eff,.eff | .eff,.read | .alloc,.eff | .alloc,.read=>false
   | _,_=>true)
 | _,_=>false
def z07i (ops:List Oper) (bs:List Nat) (as:List AOp):List Nat->Bool
 | []=>true
 | i :: l=>decide (i<ops.length) && l.all (fun j=>!Nat.beq i j && !zgt bs j i && (zgt bs i j || z07l ops as i j)) && z07i ops bs as l
def z07b (ops:List Oper):List Nat->List Nat->Bool
 | _,[]=>true
 | done,i :: l=>(match ops[i]? with
  | some o=>o.after.toList.all fun e=>!Go.Region.binds .any e || done.contains e.on
  | none=>false) && z07b ops (i :: done) l
def z001:AOp->Bool
 | .load1 _ | .loadN _ _ | .lookup _ _ _ _ _ | .lenMap _=>true
 | _=>false
def gOf (ops:List Oper) (o:Oper):Option (Option (Nat × Bool)):=match o.guard with
 | none=>some none
 | some (j,w)=>match (ops[j]?).bind (·.dst) with
  | some t=>some (some (t,w))
  | none=>none
def z08q (ops:List Oper) (bs:List Nat) (as:List AOp) (j:Nat) (later:List Nat) (i:Nat):Option (List Chk) :=
 match zgt bs i j,(as.getD i z51).cls with
 | false,.read=>match ops[i]? with
  | none=>none
  | some o=>match o.dst,gOf ops o with
   | some d,some g=>match z001 (as.getD i z51) && !(later.any fun t=>Nat.beq t d || ((as.getD i z51).tmps ++ zj7 ops o).contains t) && !((as.getD i z51).tmps ++ zj7 ops o).contains d with
    | true=>some [{ g,op:=as.getD i z51,d }]
    | false=>none
   | _,_=>none
 | _,_=>some []
def zwg (ops:List Oper) (bs:List Nat) (as:List AOp) (j:Nat):List Nat->List Nat->Option (List Chk)
 | _,[]=>some []
 | later,i :: l=>match z08q ops bs as j later i,zwg ops bs as j (((ops[i]?).bind (·.dst)).toList ++ later) l with
  | some c,some r=>some (c ++ r)
  | _,_=>none
def aiOf (ops:List Oper) (bs:List Nat) (as:List AOp) (draw:Bool) (done:List Nat) (i:Nat):Option AI :=
 match draw,(as.getD i z51).cls with
 | true,.eff=>match zwg ops bs as i [] done with
  | some c=>some { dst:=(ops[i]?).bind (·.dst),op:=as.getD i z51,chk:=c }
  | none=>none
 | _,_=>some { dst:=(ops[i]?).bind (·.dst),op:=as.getD i z51,chk:=[] }
def addI (g:Option (Nat × Bool)) (i:AI) (r:AIs):AIs :=
 match g,r with
 | none,r=>.op i r
 | some (g,w),.grd g' w' body rest=>match Nat.beq g g' && (w == w') && !z03b i.dst [g] with
  | true=>.grd g w (i :: body) rest
  | false=>.grd g w [i] r
 | some (g,w),r=>.grd g w [i] r
def cAIs (ops:List Oper) (bs:List Nat) (as:List AOp) (draw:Bool):List Nat->List Nat->Option AIs
 | _,[]=>some .nil
 | done,i :: l=>match aiOf ops bs as draw done i,cAIs ops bs as draw (i :: done) l with
  | some a,some r=>match (ops[i]?).bind (·.guard) with
   | none=>some (addI none a r)
   | some (j,w)=>match (ops[j]?).bind (·.dst) with
    | some t=>some (addI (some (t,w)) a r)
    | none=>none
  | _,_=>none
def z0aa (ops:Array Oper) (draw:Bool):Option AIs :=
 let l:=ops.toList
 let as:=l.map (cOpF P tab)
 let bs:=(Go.Region.before ops).toList
 match draw with
 | false=>cAIs l bs as false [] (List.range l.length)
 | true =>
  let s:=zvv bs (as.map AOp.cls) l.length 0 (List.range l.length)
  match (List.range l.length).all s.contains && z07i l bs as s && z07b l [] s with
  | true=>cAIs l bs as true [] s
  | false=>none
def zqj:Code->List Nat
 | .seq a b=>zqj a ++ zqj b
 | .label l=>[l]
 | _=>[]
abbrev zcd:=List (List Nat × List Nat)
def z0lr:zcd->Option (List Nat × List Nat) × zcd
 | ((m :: keep),out) :: hs=>match Nat.ble 1000000 m with
  | true=>match Nat.beq m 1000000 with
   | true=>(some (keep,out),hs)
   | false=>(none,((m-1) :: keep,out) :: hs)
  | false=>(none,((m :: keep),out) :: hs)
 | hs=>(none,hs)
def joinO:Option (List Nat × List Nat)->ACode->ACode
 | none,a=>a
 | some (keep,out),a=>.join keep out a
def z06o (f:Nat->zcd->Option (ACode × zcd)):List Nat->zcd->Option (ACode × zcd)
 | [],hs=>some (.skip,hs)
 | l :: ls,hs=>(f l hs).bind fun p=>(z06o f ls p.2).map fun q=>(.alt l p.1 q.1,q.2)
mutual
def cC:Code->zcd->Option (ACode × zcd)
 | .skip,hs=>some (.skip,hs)
 | .region _ ops draw,hs=>(z0aa P tab ops draw).map fun l=>(.ops l,hs)
 | .seq a b,hs=>(cC a (z0lr hs).2).bind fun p=>(cC b p.2).map fun q=>(.seq (joinO (z0lr hs).1 p.1) q.1,q.2)
 | .cond c a b,hs=>(cOpd tab c).bind fun c=>(cC a hs).bind fun p=>(cC b p.2).map fun q=>(.cond c p.1 q.1,q.2)
 | .block id a,hs=>(cC a hs).map fun p=>(.block id p.1,p.2)
 | .loop a,(keep,out) :: hs=>(cC a hs).map fun p=>(.loop keep out p.1,p.2)
 | .scope a,(keep,out) :: hs=>(cC a hs).bind fun p=>(z06o (fun l hs=>cR a l hs) (zqj a) p.2).map fun q=>(.scope keep out p.1 q.1,q.2)
 | .label _,hs=>some (.skip,hs)
 | .exit id,hs=>some (.exit id,hs)
 | .goto l,hs=>some (.goto l,hs)
 | .ret,hs=>some (.ret,hs)
 | .refuse _,hs=>some (.cond (.c .undef) .skip .skip,hs)
 | _,_=>none
def cR:Code->Nat->zcd->Option (ACode × zcd)
 | .seq a b,l,hs=>match (zqj a).contains l with
  | true=>(cR a l hs).bind fun p=>(cC b p.2).map fun q=>(.seq p.1 q.1,q.2)
  | false=>cR b l hs
 | .label l',l,hs=>match Nat.beq l' l with
  | true=>some (.skip,hs)
  | false=>none
 | _,_,_=>none
end
def cRes:Go.ResultVar->Option ARes
 | .tmp t=>some (.tmp t)
 | .cell a t=>(P.underlying t).map fun _=>.cell (z5u P t) (P.cellsOf t) a
def comp (cl:Bool) (hs:zcd) (fn:Func):Option AFunc :=
 fn.body.bind fun c=>(cC P tab c hs).bind fun p=>(z6d (fn.results.toList.map (cRes P))).map fun r =>
  { closed:=cl,nparams:=fn.params.size+fn.nfree,ntmps:=fn.ntmps,results:=r,body:=p.1 }
end
end Wm
