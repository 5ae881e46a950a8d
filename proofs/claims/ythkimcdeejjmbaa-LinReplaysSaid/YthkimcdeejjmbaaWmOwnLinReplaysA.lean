/- What the functions come to, and the law: of my machine. -/
import Derived.Test.YthkimcdeejjmbaaWmProgLinReplays
import Derived.Test.YthkimcdeejjmbaaWmTxtLinReplaysA
import Derived.Test.YthkimcdeejjmbaaWmEv
import Derived.Test.YthkimcdeejjmbaaWmHeap
import Derived.Test.YthkimcdeejjmbaaWmPOp0
import Derived.KernelRfl
import Derived.Test.YthkimcdeejjmbaaWmShal
import Derived.Test.YthkimcdeejjmbaaWmCore
import Derived.Test.YthkimcdeejjmbaaWmOpen
import Derived.Test.YthkimcdeejjmbaaWmTxtLinReplaysB
set_option linter.all false
noncomputable section
namespace Wm
theorem z0eh (x lo hi:Int) (h:H):C 376 [.int .i64 x,.int .i64 lo,.int .i64 hi] h=some (.bool (decide (lo<=x) && decide (x<=hi)),h):=by
 refine za7 (af:=F.zfh) (by kernel_rfl) rfl (by rfl) (by rfl) h ?_
 rw[S.z09b]
 unfold S.zfh
 by_cases h1:lo<=x <;> simp[h1,Ev.iff_some]
def cfgV (s a c hd g st:Int):V:=.agg [.int .i64 s,.int .i64 a,.int .i64 c,.int .i64 hd,.int .i64 g,.int .i64 st]
def cfgR (s a c hd g st:Int):Bool:=(decide (1<=s) && decide (s<=64)) && (decide (0<=a) && decide (a<=8)) && (decide (1<=c) && decide (c<=8)) && (decide (1<=hd) && decide (hd<=16)) && (decide (1<=g) && decide (g<=1048576)) && (decide (0<=st) && decide (st<=64))
theorem z0g4 {h:H}{cs:List V}{k:Bk} (o:Nat):(h.new (.cells cs k)).ld1 (.ptr h.next o)=match cs[o]? with
  | some v=>match V.one v with
   | true=>some v
   | false=>none
  | none=>none:=by
 simp only[H.ld1,ze]; rfl
theorem zvq (s a c hd g st:Int) (h:H):C 263 [cfgV s a c hd g st] h=some (.bool (cfgR s a c hd g st),h):=by
 refine za7 (af:=F.zio) (by kernel_rfl) rfl (by rfl) (by rfl) h ?_
 unfold cfgV
 rw[S.z0cu]
 simp only[S.zio,z0g4,V.one,List.getElem?_cons_zero,List.getElem?_cons_succ,Option.bind_some,z02,z0eh]
 unfold cfgR
 generalize (decide (1<=s) && decide (s<=64))=b1
 generalize (decide (0<=a) && decide (a<=8))=b2
 generalize (decide (1<=c) && decide (c<=8))=b3
 generalize (decide (1<=hd) && decide (hd<=16))=b4
 generalize (decide (1<=g) && decide (g<=1048576))=b5
 cases b1 <;> cases b2 <;> cases b3 <;> cases b4 <;> cases b5 <;> simp[Ev.iff_some]
theorem z09f (s a c hd g st:Int) (h:H):C 85 [cfgV s a c hd g st] h=some (.bool (cfgR s a c hd g st),h):=by
 refine za7 (af:=F.z8u) (by kernel_rfl) rfl (by rfl) (by rfl) h ?_
 unfold cfgV
 rw[S.z05x]
 simp only[S.z8u,z0g4,V.one,List.getElem?_cons_zero,List.getElem?_cons_succ,Option.bind_some,asI,decide_true]
 unfold cfgR
 by_cases h1:1<=s <;> simp only[h1,decide_true,decide_false,Bool.false_and,Bool.true_and,Ev.iff_some]
 by_cases h2:s<=64 <;> simp only[h2,decide_true,decide_false,Bool.false_and,Bool.true_and,Ev.iff_some]
 by_cases h3:0<=a <;> simp only[h3,decide_true,decide_false,Bool.false_and,Bool.true_and,Ev.iff_some]
 by_cases h4:a<=8 <;> simp only[h4,decide_true,decide_false,Bool.false_and,Bool.true_and,Ev.iff_some]
 by_cases h5:1<=c <;> simp only[h5,decide_true,decide_false,Bool.false_and,Bool.true_and,Ev.iff_some]
 by_cases h6:c<=8 <;> simp only[h6,decide_true,decide_false,Bool.false_and,Bool.true_and,Ev.iff_some]
 by_cases h7:1<=hd <;> simp only[h7,decide_true,decide_false,Bool.false_and,Bool.true_and,Ev.iff_some]
 by_cases h8:hd<=16 <;> simp only[h8,decide_true,decide_false,Bool.false_and,Bool.true_and,Ev.iff_some]
 by_cases h9:1<=g <;> simp only[h9,decide_true,decide_false,Bool.false_and,Bool.true_and,Ev.iff_some]
 by_cases h10:g<=1048576 <;> simp only[h10,decide_true,decide_false,Bool.false_and,Bool.true_and,Ev.iff_some]
 by_cases h11:0<=st <;> simp only[h11,decide_true,decide_false,Bool.false_and,Bool.true_and,Ev.iff_some]
theorem z0k1 {s a c hd g st:Int}:cfgR s a c hd g st=true<->(1<=s/\s<=64)/\(0<=a/\a<=8)/\(1<=c/\c<=8)/\(1<=hd/\hd<=16)/\(1<=g/\g<=1048576)/\(0<=st/\st<=64):=by
 simp only[cfgR,Bool.and_eq_true,decide_eq_true_eq,and_assoc]
theorem zvi {h:H}{e b:Nat}{z:List V}{l c:Int} (h1:0<=l) (h2:l<=c) (h3:c * b<=140737488355328) (h4:c<=9223372036854775807) (h5:z.length=e) (h6:0<e) :
  h.mkSl e b z l c=some (.sl h.next 0 l.toNat (.ex c.toNat),h.new (.cells (repl z c.toNat) .rw)):=by
 subst h5
 simp[H.mkSl,h1,h2,h3,h4,h6]
theorem z00u {h:H}{e b bb o len n:Nat}{x:V}{new old cs:List V} (hx:lenSl x=some n) (hn:h.slc e x=some new) (ho:h.slc e (.sl bb o len (.op e))=some old) (hg:h.get bb=some (.cells cs (.gr e))) (h1:new.all V.one=true) (h2:(len+n+(len+n) / 2+1000) * b<=281474976710656) (he:0<e) (hb:0<b) :
  h.append e b (.sl bb o len (.op e)) x=some (.sl h.next 0 (len+n) (.op e),(h.put bb none).new (.cells (old ++ new) (.gr e))):=by
 have h3:lenSl (.sl bb o len (.op e))=some len:=rfl
 simp only[H.append,hx,hn,h3,ho,h1,h2,he,hb,decide_true,Bool.and_self,hg,Nat.beq_refl]
theorem append_nil {h:H}{e b n:Nat}{x:V}{new:List V} (hx:lenSl x=some n) (hn:h.slc e x=some new) (h0:n≠0) (h1:new.all V.one=true) (h2:(n+n / 2+1000) * b<=281474976710656) (he:0<e) (hb:0<b) :
  h.append e b .nilsl x=some (.sl h.next 0 n (.op e),h.new (.cells new (.gr e))):=by
 have h3:lenSl .nilsl=some 0:=rfl
 have h4:h.slc e .nilsl=some []:=rfl
 have h5:Nat.beq n 0=false:=by cases n with
  | zero=>exact absurd rfl h0
  | succ n=>rfl
 simp only[H.append,hx,hn,h3,h4,h1,h2,he,hb,decide_true,Bool.and_self,Nat.zero_add,h5,List.nil_append]
theorem zhc {h:H}{e bb o len:Nat}{cap:Cap}{cs:List V}{k:Bk} (hg:h.get bb=some (.cells cs k)) (hl:o+len * e<=cs.length):h.slc e (.sl bb o len cap)=some ((cs.drop o).take (len * e)):=by
 simp only[H.slc,z07e hg hl]
theorem zr7 {h:H}{b o:Nat}{cs:List V}{k:Bk}{v:V} (hb:h.get b=some (.cells cs k)) (hk:k≠.ro) (hv:v.one=true) (hl:o<cs.length):h.st 1 (.ptr b o) v=some (h.put b (some (.cells (cs.set o v) k))):=by
 have hc:v.cells=[v]:=by cases v <;> first | rfl | simp[V.one] at hv
 have hs:z07 cs o [v]=cs.set o v:=by
  simp only[z07,List.length_singleton]
  rw[List.set_eq_take_append_cons_drop,if_pos hl]
  simp
 have h6:=z079 hb hk (vs:=[v]) (by simp[hv]) (show o+[v].length<=cs.length by simp; omega)
 rw[hs] at h6
 simp only[H.st,hc,List.length_singleton,Nat.beq,h6]
theorem z0f {α:Type}{call:Nat->List V->H->Option (V × H)}{meth:Nat->Nat->Option Nat}{b:List V->H->Option (AX × List V × H)}{R:Type}{k:AX × List V × H->Option R}{Q:R->Prop}{e:List V}{h:H} (enc:α->List V) (I:α->H->Prop) (μ:α->H->Nat) (P:AX × List V × H->Prop) (a:α) (he:e=enc a) (h0:I a h)
  (step:∀a h,I a h->Ev (b (enc a) h) fun r=>(∃a',r.1=.normal/\r.2.1=enc a'/\I a' r.2.2/\μ a' r.2.2<μ a h)\/(r.1≠.normal/\P r)) (out:∀r,P r->Ev (k r) Q):Ev (((envW meth call).loop b e h).bind k) Q:=by
 subst he
 exact Ev.bind (z0kn enc I μ step a h h0) out
theorem z0ho {b o n e:Nat}{c:Cap}{i:Int}{k:Go.IntKind} (h0:0<=i) (h1:i<n):z0 e (.sl b o n c) (.int k i)=some (.ptr b (o+i.toNat * e)):=by
 simp only[z0,zkk,zaq,h0,h1,decide_true,Bool.and_self]
section
variable {h:H}{P:List (Option Blk)}{e b:Nat}{new:List V}
end
def U64 (w:Int):Prop:=0<=w/\w<18446744073709551616
def getT (w:Int) (at' n:Nat):Int:=w / (2 ^ at':Int) % (2 ^ n:Int)
def okT (w:Int):Bool:=decide (getT w 0 3<=4) && decide (getT w 9 7=0)
theorem zi {α β:Type}{x y:Option α}{f:α->Option β} (h:x=y):x.bind f=y.bind f:=by rw[h]
structure Fr (L:List Nat) (h h':H):Prop where
 le:h.next<=h'.next
 ok:h'.ok
 same:∀b,b<h.next->b∉L->h'.get b=h.get b
theorem Fr.refl {L:List Nat}{h:H} (ok:h.ok):Fr L h h:=⟨Nat.le_refl _,ok,fun _ _ _=>rfl⟩
theorem Fr.new {L:List Nat}{h h':H} (f:Fr L h h') (x:Blk):Fr L h (h'.new x) :=
 ⟨by have:=f.le; simp only[H.next_new]; omega,f.ok.new x,fun b hb hL=>by rw[z0z (by have:=f.le; omega)]; exact f.same b hb hL⟩
theorem Fr.put {L:List Nat}{h h':H} (f:Fr L h h') {b:Nat} (hb:b∈L\/h.next<=b) (hl:b<h'.next) (x:Option Blk):Fr L h (h'.put b x) :=
 ⟨f.le,f.ok.put hl x,fun c hc hL=>by
  rw[zf (by rintro rfl; rcases hb with q | q; exact hL q; omega)]; exact f.same c hc hL⟩
theorem Fr.trans {L L':List Nat}{h h1 h2:H} (f:Fr L h h1) (g:Fr L' h1 h2) (hL:∀b∈L',b∈L\/h.next<=b):Fr L h h2 :=
 ⟨Nat.le_trans f.le g.le,g.ok,fun b hb hn=>by
  rw[g.same b (by have:=f.le; omega) (fun q=>by rcases hL b q with q | q; exact hn q; omega)]; exact f.same b hb hn⟩
theorem Fr.trans' {L:List Nat}{h h1 h2:H} (f:Fr L h h1) (g:Fr L h1 h2):Fr L h h2:=f.trans g fun _ q=>.inl q
theorem Fr.mono {L L':List Nat}{h h1:H} (f:Fr L h h1) (hL:∀b∈L,b∈L'\/h.next<=b):Fr L' h h1 :=
 ⟨f.le,f.ok,fun b hb hn=>f.same b hb fun q=>by rcases hL b q with q | q; exact hn q; omega⟩
theorem Fr.get {L:List Nat}{h h':H} (f:Fr L h h') (ok:h.ok) {b:Nat}{x:Blk} (hb:h.get b=some x) (hL:b∉L):h'.get b=some x:=by
 rw[f.same b (ok.lt hb) hL]; exact hb
theorem Fr.lt {L:List Nat}{h h':H} (f:Fr L h h') {b:Nat} (hb:b<h.next):b<h'.next:=Nat.lt_of_lt_of_le hb f.le
section
variable {h:H}{n b o:Nat}
theorem zk:h.ld1 (.ptr b o)=ldB (h.get b) o:=H.ld1_eq
theorem z34:h.ldN (n+1) (.ptr b o)=ldNB (h.get b) o (n+1):=H.ldN_eq (Nat.succ_ne_zero n)
theorem z92 {x:V}:h.st n (.ptr b o) x=match Nat.beq x.cells.length n with
  | true=>(stB (h.get b) o x.cells).map fun y=>h.put b (some y)
  | false=>none:=by
 simp only[H.st]
 split
 ·rename_i hb; simp only[hb,H.stc_eq]
 ·rename_i hb; simp only[hb]
theorem get_put' {x:Option Blk}{c:Nat}:(h.put b x).get c=if c=b then x else h.get c:=H.get_put _ _ _ _
theorem zgl {x:Blk}{c:Nat}:(h.new x).get c=if c=h.next then some x else h.get c:=H.get_new _ _ _
theorem zce {x y:Option Blk}:(h.put b x).put b y=h.put b y:=by
 simp only[H.put,T.put,T.put'_put' _ _ _ _ _ _ (Nat.lt_succ_self _) (Nat.lt_succ_self _)]
end
theorem z5p (b o n:Nat) (c:Cap):lenSl (.sl b o n c)=some n:=rfl
theorem zd7:lenSl .nilsl=some 0:=rfl
theorem z9i (b o:Nat):nilc (.ptr b o)=some (.ptr b o):=rfl
theorem zd5 (b o:Nat):z096 (.ptr b o) .nilp=some false:=rfl
theorem zfa:z096 .nilp .nilp=some true:=rfl
theorem zcp (b o:Nat):z096 .nilp (.ptr b o)=some false:=rfl
theorem zk3 (b o n:Nat) (c:Cap):eqSl (.sl b o n c) .nilsl=some false:=rfl
theorem zhm:eqSl .nilsl .nilsl=some true:=rfl
structure Cfg where
 s:Int
 a:Int
 c:Int
 hd:Int
 g:Int
 st:Int
def Cfg.cs (k:Cfg):List V:=[.int .i64 k.s,.int .i64 k.a,.int .i64 k.c,.int .i64 k.hd,.int .i64 k.g,.int .i64 k.st]
def Cfg.v (k:Cfg):V:=cfgV k.s k.a k.c k.hd k.g k.st
def Cfg.R (k:Cfg):Bool:=cfgR k.s k.a k.c k.hd k.g k.st
structure Touch where
 kind:Int
 at':Int
 was:Int
 now:Int
structure Mem where
 ws:List Int
 n:Int
 last:Touch
theorem zd {α β:Type} (a:α) (f:α->Option β):(some a).bind f=f a:=by
 cases h:f a with
 | none=>rw[Option.bind_some,h]
 | some b=>rw[Option.bind_some,h]
theorem ze4 (b:Bool):V.one (.bool b)=true:=rfl
theorem zcs (b:Bool):V.cells (.bool b)=[(.bool b)]:=rfl
theorem zi4 (b:Bool):boxc (.bool b)=some [(.bool b)]:=rfl
theorem z97 (k:Go.IntKind) (n:Int):V.one (.int k n)=true:=rfl
theorem zd6 (k:Go.IntKind) (n:Int):V.cells (.int k n)=[(.int k n)]:=rfl
theorem zin (k:Go.IntKind) (n:Int):boxc (.int k n)=some [(.int k n)]:=rfl
theorem zjk (s:ByteArray):V.one (.str s)=true:=rfl
theorem zfn (s:ByteArray):V.cells (.str s)=[(.str s)]:=rfl
theorem zjo (s:ByteArray):boxc (.str s)=some [(.str s)]:=rfl
theorem zjw (b o:Nat):V.one (.ptr b o)=true:=rfl
theorem zf5 (b o:Nat):V.cells (.ptr b o)=[(.ptr b o)]:=rfl
theorem zjz (b o:Nat):boxc (.ptr b o)=some [(.ptr b o)]:=rfl
theorem zhr:V.one .nilp=true:=rfl
theorem zcr:V.cells .nilp=[.nilp]:=rfl
theorem zhe:boxc .nilp=some [.nilp]:=rfl
theorem zlo (b o n:Nat) (c:Cap):V.one (.sl b o n c)=true:=rfl
theorem zg9 (b o n:Nat) (c:Cap):V.cells (.sl b o n c)=[(.sl b o n c)]:=rfl
theorem zlz (b o n:Nat) (c:Cap):boxc (.sl b o n c)=some [(.sl b o n c)]:=rfl
theorem zda:V.one .nilsl=true:=rfl
theorem z90:V.cells .nilsl=[.nilsl]:=rfl
theorem zfe:boxc .nilsl=some [.nilsl]:=rfl
theorem zkf (r:Nat):V.one (.map r)=true:=rfl
theorem zfs (r:Nat):V.cells (.map r)=[(.map r)]:=rfl
theorem zjs (r:Nat):boxc (.map r)=some [(.map r)]:=rfl
theorem zcm:V.one .nilmap=true:=rfl
theorem z8w:V.cells .nilmap=[.nilmap]:=rfl
theorem zcz:boxc .nilmap=some [.nilmap]:=rfl
theorem znq (f:Nat) (l:List V):V.one (.fn f l)=true:=rfl
theorem zhh (f:Nat) (l:List V):V.cells (.fn f l)=[(.fn f l)]:=rfl
theorem znv (f:Nat) (l:List V):boxc (.fn f l)=some [(.fn f l)]:=rfl
theorem zf6:V.one .nilfn=true:=rfl
theorem zat:V.cells .nilfn=[.nilfn]:=rfl
theorem zf8:boxc .nilfn=some [.nilfn]:=rfl
theorem zk7 (t:Nat) (v:V):V.one (.ifc t v)=true:=rfl
theorem zfq (t:Nat) (v:V):V.cells (.ifc t v)=[(.ifc t v)]:=rfl
theorem zjr (t:Nat) (v:V):boxc (.ifc t v)=some [(.ifc t v)]:=rfl
theorem zcf:V.one .nilifc=true:=rfl
theorem z8r:V.cells .nilifc=[.nilifc]:=rfl
theorem zcw:boxc .nilifc=some [.nilifc]:=rfl
theorem za5 (l:List V):V.cells (.agg l)=l:=rfl
theorem zhb (l:List V):boxc (.agg l)=some l:=rfl
theorem z0dy (b o n:Nat) (c:Cap):V.beq (.sl b o n c) (.sl b o n c)=true:=by simp[V.beq]
theorem z0a {α:Type}{l:List α}{j:Nat}{x:α} (h:l[j]?=some x):j<l.length:=by
 rcases Nat.lt_or_ge j l.length with q | q
 ·exact q
 ·rw[List.getElem?_eq_none q] at h; cases h
theorem z09w {h:H}{e b bb o len n c:Nat}{x:V}{new old:List V} (hx:lenSl x=some n) (hn:h.slc e x=some new) (ho:h.slc e (.sl bb o len (.ex c))=some old) (h1:new.all V.one=true) (h2:(len+n+(len+n) / 2+1000) * b<=281474976710656) (he:0<e) (hb:0<b) (hc:¬len+n<=c) :
  h.append e b (.sl bb o len (.ex c)) x=some (.sl h.next 0 (len+n) (.op e),h.new (.cells (old ++ new) (.gr e))):=by
 have h3:lenSl (.sl bb o len (.ex c))=some len:=rfl
 simp only[H.append,hx,hn,h3,ho,h1,h2,he,hb,decide_true,Bool.and_self,hc,decide_false]
inductive Wd
 | clock | epoch | grays | top
 | pin (k:Nat)
 | entry (k i:Nat)
 | view (k:Nat)
 | start (k:Nat)
 | header (s:Nat)
 | link (s:Nat)
 | body (s i:Nat)
 deriving DecidableEq
def Cfg.S (k:Cfg):Nat:=k.s.toNat
def Cfg.room (k:Cfg):Nat:=(if k.a<3 then 3 else k.a).toNat
def Cfg.C (k:Cfg):Nat:=k.c.toNat
def Cfg.H (k:Cfg):Nat:=k.hd.toNat
def Cfg.base (k:Cfg):Nat:=4+k.C+k.C * k.H+k.C * 2
def Cfg.size (k:Cfg):Nat:=k.base+k.S * (2+k.room)
def Wd.ok (k:Cfg):Wd->Prop
 | .clock | .epoch | .grays | .top=>True
 | .pin q | .view q | .start q=>q<k.C
 | .entry q i=>q<k.C/\i<k.H
 | .header s | .link s=>s<k.S
 | .body s i=>s<k.S/\i<k.room
instance (k:Cfg) (l:Wd):Decidable (l.ok k):=by cases l <;> (unfold Wd.ok; infer_instance)
theorem Cfg.R_iff {k:Cfg}:k.R=true<->(1<=k.s/\k.s<=64)/\(0<=k.a/\k.a<=8)/\(1<=k.c/\k.c<=8)/\(1<=k.hd/\k.hd<=16)/\(1<=k.g/\k.g<=1048576)/\(0<=k.st/\k.st<=64):=z0k1
theorem Cfg.bounds {k:Cfg} (h:k.R=true):(1<=k.S/\k.S<=64)/\(3<=k.room/\k.room<=8)/\(1<=k.C/\k.C<=8)/\(1<=k.H/\k.H<=16)/\k.base<=200/\k.size<=1000:=by
 have:=Cfg.R_iff.mp h
 have h1:3<=k.room/\k.room<=8:=by unfold Cfg.room; split <;> omega
 have h2:k.C * k.H<=8 * 16:=Nat.mul_le_mul (by unfold Cfg.C; omega) (by unfold Cfg.H; omega)
 have h3:k.S * (2+k.room)<=64 * 10:=Nat.mul_le_mul (by unfold Cfg.S; omega) (by omega)
 unfold Cfg.size Cfg.base
 unfold Cfg.S Cfg.C Cfg.H at *
 omega
structure Hdr where
 kind:Int
 mark:Int
 gray:Bool
 arity:Int
 gen:Int
 stamp:Int
def Hdr.cs (x:Hdr):List V:=[.int .i64 x.kind,.int .i64 x.mark,.bool x.gray,.int .i64 x.arity,.int .i64 x.gen,.int .i64 x.stamp]
def Hdr.zero:Hdr:=⟨0,0,false,0,0,0⟩
def unp (w:Int):Hdr:=if okT w then ⟨getT w 0 3,getT w 3 1,decide (getT w 4 1=1),getT w 5 4,getT w 16 32,getT w 48 16⟩ else .zero
def z0d1 (e:Int):Int:=(e / 4+1) % 2
def z0ln (w:Int):Bool:=okT w && (decide ((unp w).kind=1) || decide ((unp w).kind=2))
def z0oc (w e:Int):Bool:=z0ln w && !decide ((unp w).mark=z0d1 e)
end Wm
end
noncomputable section
namespace Wm
attribute [local congr] zi
def born (e:Int):Int:=if e % 4=0 then 1-z0d1 e else z0d1 e
def z0mw (w e:Int):Bool:=z0ln w && decide ((unp w).mark=z0d1 e)
end Wm
end
noncomputable section
namespace Wm
attribute [local congr] zi
attribute [local irreducible] wr
theorem z06j {b n i e:Nat}{c:Cap} (hi:i<n):z0 e (.sl b 0 n c) (.int .i64 (i:Int))=some (.ptr b (i * e)):=by
 simp only[z0,zkk,zaq,show decide ((0:Int)<=(i:Int))=true from decide_eq_true (by omega),show decide ((i:Int)<(n:Int))=true from decide_eq_true (by omega),Bool.and_self,Nat.zero_add,Int.toNat_natCast]
theorem zs {b n i:Nat}{c:Cap} (hi:i<n):z0 1 (.sl b 0 n c) (.int .i64 (i:Int))=some (.ptr b i):=by rw[z06j hi,Nat.mul_one]
theorem zll {i n:Nat} (h:i<n):decide ((i:Int)<(n:Int))=true:=decide_eq_true (Int.ofNat_lt.mpr h)
theorem z0my {h:H}{e b bb o c:Nat}{x:V}{new:List V}{n:Nat} (hx:lenSl x=some n) (hn:h.slc e x=some new) (ho:h.slc e (.sl bb o 0 (.ex c))=some []) (h1:new.all V.one=true) (h2:(n+n / 2+1000) * b<=281474976710656) (he:0<e) (hb:0<b) (hc:c<n) :
  h.append e b (.sl bb o 0 (.ex c)) x=some (.sl h.next 0 n (.op e),h.new (.cells new (.gr e))):=by
 have:=z09w (len:=0) (bb:=bb) (o:=o) (c:=c) hx hn ho h1 (by simpa using h2) he hb (by omega)
 rw[this]; simp
theorem z0e8 {h:H}{e b o:Nat}{c:Cap}{cs:List V}{k:Bk} (hg:h.get b=some (.cells cs k)) (ho:o<=cs.length):h.slc e (.sl b o 0 c)=some []:=by
 rw[zhc hg (by simpa using ho)]; simp
def V.blk:V->List Nat
 | .sl b _ _ _=>[b]
 | _=>[]
def Grown (g:Nat->Option Blk) (x:V) (e:Nat) (l:List V):Prop :=
 (x=.nilsl/\l=[])\/∃b n,x=.sl b 0 n (.op e)/\l.length=n * e/\g b=some (.cells l (.gr e))
theorem Grown.nil (g:Nat->Option Blk) (e:Nat):Grown g .nilsl e []:=.inl ⟨rfl,rfl⟩
theorem Grown.fr {g g':H}{L:List Nat}{x:V}{e:Nat}{l:List V} (G:Grown g.get x e l) (ok:g.ok) (F:Fr L g g') (h:∀b∈x.blk,b∉L):Grown g'.get x e l:=by
 obtain h1 | ⟨b,n,rfl,hl,hb⟩:=G
 ·exact .inl h1
 ·exact .inr ⟨b,n,rfl,hl,F.get ok hb (h b (by simp[V.blk]))⟩
theorem Grown.lt {g:H}{x:V}{e:Nat}{l:List V} (G:Grown g.get x e l) (ok:g.ok):∀b∈x.blk,b<g.next:=by
 obtain⟨rfl,rfl⟩ | ⟨b,n,rfl,hl,hb⟩:=G
 ·simp[V.blk]
 ·intro c hc; simp only[V.blk,List.mem_singleton] at hc; subst hc; exact ok.lt hb
theorem Grown.ne {g:Nat->Option Blk}{x:V}{e:Nat}{l:List V} (G:Grown g x e l) {b:Nat}{cs:List V}{k:Bk} (hb:g b=some (.cells cs k)) (hk:k≠.gr e):b∉x.blk:=by
 obtain⟨rfl,rfl⟩ | ⟨b',n,rfl,hl,hb'⟩:=G
 ·simp[V.blk]
 ·simp only[V.blk,List.mem_singleton]
  rintro rfl
  rw[hb] at hb'
  simp only[Option.some.injEq,Blk.cells.injEq] at hb'
  exact hk hb'.2
theorem Grown.push {g:H} (ok:g.ok) {x:V}{e:Nat}{l new:List V}{nb:Nat}{k:Bk}{bytes:Nat} (G:Grown g.get x e l) (hn:g.get nb=some (.cells new k)) (hlen:new.length=e) (h1:new.all V.one=true) (he:0<e) (hb:0<bytes/\bytes<=1000) (hs:l.length<=1000000) :
  ∃x' g',g.append e bytes x (.sl nb 0 1 (.ex 1))=some (x',g')/\Fr x.blk g g'/\Grown g'.get x' e (l ++ new)/\(∀b∈x'.blk,g.next<=b)/\x'.blk≠[]:=by
 have hslc:g.slc e (.sl nb 0 1 (.ex 1))=some new:=by
  rw[zhc hn (by omega),List.drop_zero,List.take_of_length_le (by omega)]
 obtain⟨rfl,rfl⟩ | ⟨b,n,rfl,hl,hbk⟩:=G
 ·refine⟨_,_,append_nil (n:=1) rfl hslc (by omega) h1 (by omega) he hb.1,(Fr.refl ok).new _,.inr ⟨_,_,rfl,by simp; omega,?_⟩,by simp[V.blk],by simp[V.blk]⟩
  rw[List.nil_append]; exact ze _ _
 ·have hnn:n<=1000000:=by
   have:n * 1<=n * e:=Nat.mul_le_mul_left _ he
   omega
  have hold:g.slc e (.sl b 0 n (.op e))=some l:=by rw[zhc hbk (by omega),List.drop_zero,List.take_of_length_le (by omega)]
  have hsz:(n+1+(n+1) / 2+1000) * bytes<=281474976710656:=by
   have:(n+1+(n+1) / 2+1000) * bytes<=2000000 * 1000:=Nat.mul_le_mul (by omega) hb.2
   omega
  refine⟨_,_,z00u (n:=1) rfl hslc hold hbk h1 hsz he hb.1,?_,.inr ⟨_,_,rfl,by rw[List.length_append,hl,hlen,Nat.add_mul,Nat.one_mul],ze _ _⟩,by simp[V.blk],by simp[V.blk]⟩
  exact((Fr.refl ok).put (.inl (by simp[V.blk])) (ok.lt hbk) _).new _
def RowN (kd:Go.IntKind) (g:Nat->Option Blk) (x:V) (ws:List Int):Prop:=(x=.nilsl/\ws=[])\/∃b c k,x=.sl b 0 ws.length c/\g b=some (.cells (ws.map (.int kd)) k)
theorem RowN.len {kd:Go.IntKind}{g:Nat->Option Blk}{x:V}{ws:List Int} (h:RowN kd g x ws):lenSl x=some ws.length:=by
 obtain⟨rfl,rfl⟩ | ⟨b,c,k,rfl,_⟩:=h <;> rfl
theorem RowN.at {kd:Go.IntKind}{g:H}{x:V}{ws:List Int} (h:RowN kd g.get x ws) {i:Nat}{w:Int} (hw:ws[i]?=some w):∃b,z0 1 x (.int .i64 (i:Int))=some (.ptr b i)/\g.ld1 (.ptr b i)=some (.int kd w):=by
 have hi:=z0a hw
 obtain⟨rfl,rfl⟩ | ⟨b,c,k,rfl,hb⟩:=h
 ·simp at hw
 ·refine⟨b,zs hi,?_⟩
  rw[zk,hb,z08,List.getElem?_map,hw]; rfl
theorem RowN.fr {kd:Go.IntKind}{g g':H}{L:List Nat}{x:V}{ws:List Int} (h:RowN kd g.get x ws) (ok:g.ok) (F:Fr L g g') (hL:∀b∈x.blk,b∉L):RowN kd g'.get x ws:=by
 obtain h1 | ⟨b,c,k,rfl,hb⟩:=h
 ·exact .inl h1
 ·exact .inr ⟨b,c,k,rfl,F.get ok hb (hL b (by simp[V.blk]))⟩
end Wm
end
noncomputable section
namespace Wm
structure HoldR where
 c:Int
 h:Int
 n:Int
structure RSt where
 F:List (List Int)
 Hs:List HoldR
 Wk:List Int
 Cm:List (List Int)
 Gv:List Int
structure CallR where
 kind:Int
 n:Int
 h:Int
 x:Int
 y:Int
structure AnsR where
 err:Int
 h:Int
 yes:Bool
def CallR.cs (c:CallR):List V:=[.int .i64 c.kind,.int .i64 c.n,.int .u64 c.h,.int .u64 c.x,.int .u64 c.y]
def AnsR.cs (a:AnsR):List V:=[.int .i64 a.err,.int .u64 a.h,.bool a.yes]
def HoldR.cs (x:HoldR):List V:=[.int .i64 x.c,.int .u64 x.h,.int .i64 x.n]
def HoldR.is (x:HoldR) (k h:Int):Bool:=decide (x.c=k) && decide (x.h=h)
def z03e (l:List HoldR) (k h:Int):Int:=match l.find? (HoldR.is · k h) with
 | some x=>x.n
 | none => -1
def z031 (l:List HoldR) (k:Int):Nat:=(l.filter fun x=>decide (x.c=k)).length
namespace RSt
def node (r:RSt) (k h:Int):Int:=z03e r.Hs k h
def held (r:RSt) (k:Int):Nat:=z031 r.Hs k
def fl (r:RSt) (n:Int):List Int:=(r.F[n.toNat]?).getD []
def fat (r:RSt) (n i:Int):Int:=((r.fl n)[i.toNat]?).getD (-1)
def walk (r:RSt) (k:Int):Int:=(r.Wk[k.toNat]?).getD 0
def come (r:RSt) (k:Int):List Int:=(r.Cm[k.toNat]?).getD []
def fresh (r:RSt) (h:Int):Bool:=!(r.Gv.contains h) && !decide (h=0)
def next (r:RSt) (l:List Int) (x:Int):List Int:=if decide (0<=x) && !l.contains x then l ++ [x] else l
def nexts (r:RSt) (l:List Int) (xs:List Int):List Int:=xs.foldl r.next l
def reach (r:RSt):Nat->Nat->List Int->List Int
 | 0,_,l=>l
 | d+1,i,l=>match l[i]? with
  | none=>l
  | some n=>r.reach d (i+1) (r.nexts l (r.fl n))
def reached (r:RSt) (n:Int):List Int:=r.reach (r.F.length+1) 0 [n]
end RSt
def errR (k:Cfg) (r:RSt) (w:Int) (c:CallR):Int :=
 if c.kind<1\/10<c.kind then 8
 else if c.kind=1 then (if c.n<0\/k.a<c.n then 1 else if (r.held w:Int)<k.hd then 0 else 5)
 else if c.kind=9\/c.kind=10 then (if r.walk w=0\/r.walk w≠c.h\/(c.kind=9/\(r.come w).length=0) then 6 else if c.kind=9/\¬(r.held w:Int)<k.hd then 5 else 0)
 else if r.node w c.h<0\/((c.kind=3\/c.kind=7)/\¬0<=r.node w c.x)\/(c.kind=5/\((c.x≠0/\¬0<=r.node w c.x)\/(c.y≠0/\¬0<=r.node w c.y))) then 2
 else if (2<=c.kind/\c.kind<=5)/\(c.n<0\/((r.fl (r.node w c.h)).length:Int)<=c.n) then 3
 else if c.kind=2/\0<=r.fat (r.node w c.h) c.n/\¬(r.held w:Int)<k.hd then 5
 else if c.kind=8/\r.walk w≠0 then 7
 else 0
def z00e (r:RSt) (w:Int) (c:CallR):Bool:=decide (r.fat (r.node w c.h) c.n=r.node w c.y)
def z25 (r:RSt) (w:Int) (c:CallR):Bool:=decide (c.kind=1) || decide (c.kind=8) || decide (c.kind=9) || (decide (c.kind=2) && decide (0<=r.fat (r.node w c.h) c.n))
def yesR (r:RSt) (w:Int) (c:CallR):Bool:=(decide (c.kind=5) && z00e r w c) || (decide (c.kind=7) && decide (r.node w c.h=r.node w c.x))
def zq7 (r:RSt) (w:Int) (c:CallR):Bool:=decide (c.kind=1) || decide (c.kind=3) || decide (c.kind=4) || (decide (c.kind=5) && z00e r w c)
def okR (k:Cfg) (r:RSt) (w:Int) (c:CallR) (a:AnsR):Bool :=
 if w<0\/k.c<=w then false
 else if errR k r w c≠0 then decide (a.err=errR k r w c) && decide (a.h=0) && !a.yes
 else if a.err=4 then zq7 r w c && decide (a.h=0) && !a.yes
 else decide (a.err=0) && decide (a.yes=yesR r w c) && (if z25 r w c then r.fresh a.h else decide (a.h=0))
namespace RSt
def setF (r:RSt) (n i v:Int):RSt:={ r with F:=r.F.modify n.toNat fun l=>l.set i.toNat v }
def gives (r:RSt) (w h n:Int):RSt:={ r with Gv:=r.Gv ++ [h],Hs:=r.Hs ++ [⟨w,h,n⟩] }
end RSt
def z0j (r:RSt) (w:Int) (c:CallR) (a:AnsR):RSt :=
 if c.kind=1 then ({ r with F:=r.F ++ [List.replicate c.n.toNat (-1)] }:RSt).gives w a.h r.F.length
 else if c.kind=2 then (if z25 r w c then r.gives w a.h (r.fat (r.node w c.h) c.n) else r)
 else if c.kind=3 then r.setF (r.node w c.h) c.n (r.node w c.x)
 else if c.kind=4 then r.setF (r.node w c.h) c.n (-1)
 else if c.kind=5 then (if yesR r w c then r.setF (r.node w c.h) c.n (r.node w c.x) else r)
 else if c.kind=6 then { r with Hs:=r.Hs.filter fun x=>!(x.is w c.h) }
 else if c.kind=8 then { r with Gv:=r.Gv ++ [a.h],Wk:=r.Wk.set w.toNat a.h,Cm:=r.Cm.set w.toNat (r.reached (r.node w c.h)) }
 else if c.kind=9 then { (r.gives w a.h ((r.come w).headD 0)) with Cm:=r.Cm.set w.toNat ((r.come w).tail) }
 else if c.kind=10 then { r with Wk:=r.Wk.set w.toNat 0,Cm:=r.Cm.set w.toNat [] }
 else r
def zln (k:Cfg) (r:RSt) (w:Int) (c:CallR) (a:AnsR):Bool:=okR k r w c a && decide (errR k r w c=0) && decide (a.err=0)
def doR (k:Cfg) (r:RSt) (w:Int) (c:CallR) (a:AnsR):RSt:=if zln k r w c a then z0j r w c a else r
structure RIn (k:Cfg) (r:RSt):Prop where
 wk:r.Wk.length=k.C
 cm:r.Cm.length=k.C
 f:∀l∈r.F,∀v∈l,-1<=v/\v<r.F.length
 hs:∀x∈r.Hs,(0<=x.c/\x.c<k.c)/\(0<=x.n/\x.n<r.F.length)/\x.h∈r.Gv/\x.h≠0/\U64 x.h
 nd:r.Hs.Pairwise fun x y=>¬(x.c=y.c/\x.h=y.h)
 come:∀l∈r.Cm,∀n∈l,0<=n/\n<r.F.length
 wu:∀h∈r.Wk,U64 h
 gu:∀h∈r.Gv,U64 h
theorem z0dz {α:Type}{P:List V->Prop}{enc:α->List V}{Q:α->Prop}{z:Nat} (hP:∀c,P c->∃y,c=enc y/\Q y) :
  ∀(n:Nat) (cs:List V),cs.length=n * z->(∀i,i<n->P ((cs.drop (i * z)).take z))->∃ys:List α,cs=(ys.map enc).flatten/\ys.length=n/\∀y∈ys,Q y
 | 0,cs,hl,_=>⟨[],by simpa using hl,rfl,by simp⟩
 | n+1,cs,hl,h=>by
  obtain⟨y,hy,qy⟩:=hP _ (h 0 (by omega))
  have hl2:(cs.drop z).length=n * z:=by rw[List.length_drop,hl,Nat.add_mul]; omega
  obtain⟨ys,h1,h2,h3⟩:=z0dz hP n (cs.drop z) hl2 (fun i hi=>by
   have:=h (i+1) (by omega)
   rw[Nat.add_mul,Nat.one_mul,Nat.add_comm (i * z) z,<-List.drop_drop] at this
   exact this)
  refine⟨y :: ys,?_,by simp[h2],fun x hx => ?_⟩
  ·rw[List.map_cons,List.flatten_cons,<-h1,<-hy,Nat.zero_mul,List.drop_zero,List.take_append_drop]
  ·rcases List.mem_cons.mp hx with rfl | hx
   ·exact qy
   ·exact h3 x hx
theorem z0ii {α β:Type} (f:α->β) (l:List α):(l.map fun m=>[f m]).flatten=l.map f:=by
 induction l with
 | nil=>rfl
 | cons x l ih=>simp only[List.map_cons,List.flatten_cons,ih,List.cons_append,List.nil_append]
theorem z0mh {g:Nat->Option Blk}{kd:Go.IntKind}{by':Nat}{v:V} (h:CellOk g (.sl by' [.int kd]) v) :
  ∃ws,RowN kd g v ws/\(∀w∈ws,(Go.Lit.int kd w).wf=true)/\ws.length * by'<=140737488351232/\ws.length<=Go.maxLen:=by
 unfold CellOk at h
 rcases h with rfl | ⟨b,n,cs,rfl,⟨h1,h2⟩,h3,h4,h5⟩
 ·exact⟨[],.inl ⟨rfl,rfl⟩,by simp,by simp,by simp⟩
 ·obtain⟨ws,e1,e2,e3⟩:=z0dz (α:=Int) (enc:=fun m=>[V.int kd m]) (Q:=fun w=>(Go.Lit.int kd w).wf=true) (P:=CellsOk g [.int kd]) (fun c hc=>by
   obtain⟨v,vs,rfl,⟨m,rfl,hm⟩,h⟩:=hc
   unfold CellsOk at h
   subst h
   exact⟨m,rfl,hm⟩) n cs h4 h5
  have e4:cs=ws.map (.int kd):=by
   rw[e1]; exact z0ii _ ws
  subst e2
  exact⟨ws,.inr ⟨b,_,.ro,rfl,by rw[h3,e4]⟩,e3,h2,h1⟩
theorem z0nq {n:Int} (h:(Go.Lit.int .u64 n).wf=true):U64 n:=by
 have:0<=n/\n<=18446744073709551615:=by simpa [Go.Lit.wf,Go.IntKind.min,Go.IntKind.max,Go.IntKind.signed,Go.IntKind.bits] using h
 exact⟨this.1,by omega⟩
end Wm
end
noncomputable section
namespace Wm
attribute [local congr] zi
attribute [local irreducible] wr
structure Slt where
 head:Hdr
 v:V
 body:List Int
def Slt.cs (s:Slt):List V:=s.head.cs ++ [s.v]
structure RowS (g:Nat->Option Blk) (x:V) (l:List Slt):Prop where
 row:(x=.nilsl/\l=[])\/∃b c k,x=.sl b 0 l.length c/\g b=some (.cells (l.map Slt.cs).flatten k)
 body:∀s∈l,RowN .u64 g s.v s.body
theorem RowN.one {kd:Go.IntKind}{g:Nat->Option Blk}{x:V}{ws:List Int} (h:RowN kd g x ws):x.one=true:=by
 obtain⟨rfl,_⟩ | ⟨b,c,k,rfl,_⟩:=h <;> rfl
def Sub (g g':Nat->Option Blk):Prop:=∀b x,g b=some x->g' b=some x
def ug (g:Nat->Option Blk) (h h':H):Nat->Option Blk:=fun b=>if b<h.next then g b else h'.get b
theorem Sub.refl (g:Nat->Option Blk):Sub g g:=fun _ _ h=>h
theorem Sub.lt {g:Nat->Option Blk}{h:H} (s:Sub g h.get) (ok:h.ok) {b:Nat}{x:Blk} (hb:g b=some x):b<h.next:=ok.lt (s b x hb)
theorem Sub.fr {g:Nat->Option Blk}{h h':H}{L:List Nat} (s:Sub g h.get) (ok:h.ok) (F:Fr L h h') (hL:∀b∈L,g b=none):Sub g h'.get:=fun b x hb =>
 F.get ok (s b x hb) fun q=>by rw[hL b q] at hb; cases hb
theorem Sub.fr0 {g:Nat->Option Blk}{h h':H} (s:Sub g h.get) (ok:h.ok) (F:Fr [] h h'):Sub g h'.get:=s.fr ok F (by simp)
theorem z02f {g:Nat->Option Blk}{h:H} (s:Sub g h.get) (ok:h.ok) (h':H):Sub g (ug g h h'):=fun b x hb=>by
 unfold ug; rw[if_pos (s.lt ok hb)]; exact hb
theorem z0jh {g:Nat->Option Blk}{h h':H} (s:Sub g h.get) (ok:h.ok) (F:Fr [] h h'):Sub (ug g h h') h'.get:=fun b x hb=>by
 unfold ug at hb
 split at hb
 ·exact F.get ok (s b x hb) (by simp)
 ·exact hb
theorem z0nw {g:Nat->Option Blk}{h h':H}{b:Nat} (hb:b<h.next):ug g h h' b=g b:=if_pos hb
theorem z6w {g:Nat->Option Blk}{h h':H}{b:Nat} (hb:h.next<=b):ug g h h' b=h'.get b:=if_neg (by omega)
def RowO (kd:Go.IntKind) (g:Nat->Option Blk) (x:V) (ws:List Int):Prop :=
 (x=.nilsl/\ws=[])\/∃b o c k cs,x=.sl b o ws.length c/\g b=some (.cells cs k)/\(cs.drop o).take ws.length=ws.map (.int kd)/\o+ws.length<=cs.length/\(c=.op 1\/∃n,c=.ex n/\ws.length<=n)
theorem RowO.len {kd:Go.IntKind}{g:Nat->Option Blk}{x:V}{ws:List Int} (h:RowO kd g x ws):lenSl x=some ws.length:=by
 obtain⟨rfl,rfl⟩ | ⟨b,o,c,k,cs,rfl,_⟩:=h <;> rfl
theorem RowO.one {kd:Go.IntKind}{g:Nat->Option Blk}{x:V}{ws:List Int} (h:RowO kd g x ws):x.one=true:=by
 obtain⟨rfl,rfl⟩ | ⟨b,o,c,k,cs,rfl,_⟩:=h <;> rfl
theorem RowO.sub {kd:Go.IntKind}{g g':Nat->Option Blk}{x:V}{ws:List Int} (h:RowO kd g x ws) (s:Sub g g'):RowO kd g' x ws:=by
 obtain h1 | ⟨b,o,c,k,cs,e,hb,r⟩:=h
 ·exact .inl h1
 ·exact .inr ⟨b,o,c,k,cs,e,s _ _ hb,r⟩
theorem RowO.at {kd:Go.IntKind}{g:Nat->Option Blk}{x:V}{ws:List Int} (h:RowO kd g x ws) {i:Nat}{w:Int} (hw:ws[i]?=some w):∃b o,z0 1 x (.int .i64 (i:Int))=some (.ptr b o)/\ldB (g b) o=some (.int kd w):=by
 have hi:=z0a hw
 obtain⟨rfl,rfl⟩ | ⟨b,o,c,k,cs,rfl,hb,hd,hl,_⟩:=h
 ·simp at hw
 ·refine⟨b,o+i,?_,?_⟩
  ·rw[z0ho (by omega) (by omega)]; simp
  ·have:cs[o+i]?=some (.int kd w):=by
    have e1:=congrArg (fun l:List V=>l[i]?) hd
    simp only[List.getElem?_take,hi,if_true,List.getElem?_drop,List.getElem?_map,hw,Option.map_some] at e1
    exact e1
   rw[hb,z08,this]; rfl
theorem z030 (kd:Go.IntKind) (ws:List Int):(ws.map (V.int kd)).all V.one=true:=by
 rw[List.all_map,List.all_eq_true]; intro _ _; rfl
theorem RowO.slc {kd:Go.IntKind}{g:H}{x:V}{ws:List Int} (h:RowO kd g.get x ws):g.slc 1 x=some (ws.map (.int kd)):=by
 obtain⟨rfl,rfl⟩ | ⟨b,o,c,k,cs,rfl,hb,hd,hl,_⟩:=h
 ·rfl
 ·rw[zhc hb (by omega),Nat.mul_one,hd]
theorem RowO.tail {kd:Go.IntKind}{g:Nat->Option Blk}{x:V}{w:Int}{ws:List Int} (h:RowO kd g x (w :: ws)):∃x',zgq 1 x (some (.int .i64 1)) none none=some x'/\RowO kd g x' ws:=by
 obtain⟨_,h0⟩ | ⟨b,o,c,k,cs,rfl,hb,hd,hl,hc⟩:=h
 ·cases h0
 ·rw[List.length_cons] at *
  have h1:(cs.drop (o+1)).take ws.length=ws.map (.int kd):=by
   have e1:=congrArg (List.drop 1) hd
   rw[List.drop_take,List.drop_drop] at e1
   simpa [Nat.add_comm] using e1
  have hb1:∀m:Nat,1<=m->z2q 0 m (some (.int .i64 1))=some 1:=fun m hm=>by
   have d1:decide ((1:Int)<=((m:Nat):Int))=true:=decide_eq_true (by omega)
   show(match decide ((0:Int)<=1) && decide ((1:Int)<=((m:Nat):Int)) with | true=>_ | false=>_)=_
   rw[d1]; rfl
  rcases hc with rfl | ⟨n,rfl,hn⟩
  ·refine⟨.sl b (o+1) ws.length (.op 1),?_,.inr ⟨b,o+1,_,k,cs,rfl,hb,h1,by omega,.inl rfl⟩⟩
   have hz:Nat.beq 1 1=true:=rfl
   have hb0:z2q (ws.length+1) (ws.length+1) none=some (ws.length+1):=rfl
   simp only[zgq,hb0,hb1 _ (Nat.le_add_left 1 _),Nat.mul_one,Nat.add_sub_cancel]
  ·have e0:z2q n n none=some n:=rfl
   have e2:z2q (ws.length+1) n none=some (ws.length+1):=rfl
   by_cases h2:n=1
   ·subst h2
    have hw:ws=[]:=List.eq_nil_of_length_eq_zero (by omega)
    subst hw
    refine⟨.sl b o 0 (.ex 0),?_,.inr ⟨b,o,_,k,cs,rfl,hb,by simp,by simp at hl ⊢; omega,.inr ⟨0,rfl,by simp⟩⟩⟩
    rfl
   ·refine⟨.sl b (o+1) ws.length (.ex (n-1)),?_,.inr ⟨b,o+1,_,k,cs,rfl,hb,h1,by omega,.inr ⟨n-1,rfl,by omega⟩⟩⟩
    have hz:Nat.beq n 1=false:=by
     cases hq:Nat.beq n 1 with
     | false=>rfl
     | true=>exact absurd (Nat.eq_of_beq_eq_true hq) h2
    simp only[zgq,e0,e2,hb1 _ (Nat.le_add_left 1 _),hz,Nat.mul_one,Nat.add_sub_cancel]
def RowsO (kd:Go.IntKind) (g:Nat->Option Blk) (x:V) (L:List (List Int)):Prop :=
 (x=.nilsl/\L=[])\/∃(b:Nat) (c:Cap) (k:Bk) (vs:List V),x=.sl b 0 L.length c/\g b=some (.cells vs k)/\vs.length=L.length/\∀(i:Nat) (v:V) (l:List Int),vs[i]?=some v->L[i]?=some l->RowO kd g v l
theorem RowsO.len {kd:Go.IntKind}{g:Nat->Option Blk}{x:V}{L:List (List Int)} (h:RowsO kd g x L):lenSl x=some L.length:=by
 obtain⟨rfl,rfl⟩ | ⟨b,c,k,vs,rfl,_⟩:=h <;> rfl
theorem RowsO.one {kd:Go.IntKind}{g:Nat->Option Blk}{x:V}{L:List (List Int)} (h:RowsO kd g x L):x.one=true:=by
 obtain⟨rfl,rfl⟩ | ⟨b,c,k,vs,rfl,_⟩:=h <;> rfl
theorem RowsO.sub {kd:Go.IntKind}{g g':Nat->Option Blk}{x:V}{L:List (List Int)} (h:RowsO kd g x L) (s:Sub g g'):RowsO kd g' x L:=by
 obtain h1 | ⟨b,c,k,vs,e,hb,hl,hr⟩:=h
 ·exact .inl h1
 ·exact .inr ⟨b,c,k,vs,e,s _ _ hb,hl,fun i v l h1 h2=>(hr i v l h1 h2).sub s⟩
theorem RowsO.at {kd:Go.IntKind}{g:Nat->Option Blk}{x:V}{L:List (List Int)} (h:RowsO kd g x L) {i:Nat}{l:List Int} (hl:L[i]?=some l):∃b y,z0 1 x (.int .i64 (i:Int))=some (.ptr b i)/\ldB (g b) i=some y/\RowO kd g y l:=by
 have hi:=z0a hl
 obtain⟨rfl,rfl⟩ | ⟨b,c,k,vs,rfl,hb,hn,hr⟩:=h
 ·simp at hl
 ·obtain⟨v,hv⟩:∃v,vs[i]?=some v:=⟨_,List.getElem?_eq_getElem (by omega)⟩
  refine⟨b,v,zs hi,?_,hr i v l hv hl⟩
  rw[hb,z08,hv]; simp only[(hr i v l hv hl).one]
def RowHo (g:Nat->Option Blk) (x:V) (l:List HoldR):Prop:=(x=.nilsl/\l=[])\/∃b c k,x=.sl b 0 l.length c/\g b=some (.cells (l.map HoldR.cs).flatten k)
theorem z03u (l:List HoldR):∀x∈l.map HoldR.cs,x.length=3:=fun x hx=>by
 obtain⟨_,_,rfl⟩:=List.mem_map.mp hx; rfl
theorem z0ij (l:List HoldR):(l.map HoldR.cs).flatten.all V.one=true:=by
 rw[List.all_eq_true]
 intro x hx
 obtain⟨y,hy,hx⟩:=List.mem_flatten.mp hx
 obtain⟨z,_,rfl⟩:=List.mem_map.mp hy
 simp only[HoldR.cs,List.mem_cons,List.not_mem_nil,or_false] at hx
 rcases hx with rfl | rfl | rfl <;> rfl
theorem RowHo.len {g:Nat->Option Blk}{x:V}{l:List HoldR} (h:RowHo g x l):lenSl x=some l.length:=by
 obtain⟨rfl,rfl⟩ | ⟨b,c,k,rfl,_⟩:=h <;> rfl
theorem RowHo.one {g:Nat->Option Blk}{x:V}{l:List HoldR} (h:RowHo g x l):x.one=true:=by
 obtain⟨rfl,rfl⟩ | ⟨b,c,k,rfl,_⟩:=h <;> rfl
theorem RowHo.sub {g g':Nat->Option Blk}{x:V}{l:List HoldR} (h:RowHo g x l) (s:Sub g g'):RowHo g' x l:=by
 obtain h1 | ⟨b,c,k,e,hb⟩:=h
 ·exact .inl h1
 ·exact .inr ⟨b,c,k,e,s _ _ hb⟩
theorem RowHo.at {g:Nat->Option Blk}{x:V}{l:List HoldR} (h:RowHo g x l) {i:Nat}{y:HoldR} (hy:l[i]?=some y) :
  ∃b,z0 3 x (.int .i64 (i:Int))=some (.ptr b (i * 3))/\ldB (g b) (i * 3)=some (.int .i64 y.c)/\ldB (g b) (i * 3+1)=some (.int .u64 y.h)/\ldB (g b) (i * 3+2)=some (.int .i64 y.n)/\ldNB (g b) (i * 3) 3=some (.agg y.cs):=by
 have hi:=z0a hy
 obtain⟨rfl,rfl⟩ | ⟨b,c,k,rfl,hb⟩:=h
 ·simp at hy
 ·have hn:(l.map HoldR.cs).flatten.length=l.length * 3:=by rw[zc7 (z03u l),List.length_map]
  have hp:=zwk (z03u l) i y.cs (by rw[List.getElem?_map,hy]; rfl)
  have at':∀j,j<3->(l.map HoldR.cs).flatten[i * 3+j]?=y.cs[j]?:=fun j hj=>by
   rw[<-hp,List.getElem?_take,if_pos hj,List.getElem?_drop]
  have a0:=at' 0 (by decide)
  rw[Nat.add_zero] at a0
  refine⟨b,z06j hi,?_,?_,?_,?_⟩
  ·rw[hb,z08,a0]; rfl
  ·rw[hb,z08,at' 1 (by decide)]; rfl
  ·rw[hb,z08,at' 2 (by decide)]; rfl
  ·rw[hb,z4c,decide_eq_true (by rw[hn]; omega),hp]
theorem RowHo.slc {g:H}{x:V}{l:List HoldR} (h:RowHo g.get x l):g.slc 3 x=some (l.map HoldR.cs).flatten:=by
 obtain⟨rfl,rfl⟩ | ⟨b,c,k,rfl,hb⟩:=h
 ·rfl
 ·have hn:(l.map HoldR.cs).flatten.length=l.length * 3:=by rw[zc7 (z03u l),List.length_map]
  rw[zhc hb (by omega),List.drop_zero,List.take_of_length_le (by omega)]
structure StV where
 f:V
 h:V
 w:V
 c:V
 g:V
def StV.v (k:Cfg) (s:StV):V:=.agg [.int .i64 k.s,.int .i64 k.a,.int .i64 k.c,.int .i64 k.hd,.int .i64 k.g,.int .i64 k.st,s.f,s.h,s.w,s.c,s.g]
structure StAt (g:Nat->Option Blk) (s:StV) (r:RSt):Prop where
 f:RowsO .i64 g s.f r.F
 h:RowHo g s.h r.Hs
 w:RowO .u64 g s.w r.Wk
 c:RowsO .i64 g s.c r.Cm
 g:RowO .u64 g s.g r.Gv
theorem StAt.sub {g g':Nat->Option Blk}{s:StV}{r:RSt} (Z:StAt g s r) (q:Sub g g'):StAt g' s r:=⟨Z.f.sub q,Z.h.sub q,Z.w.sub q,Z.c.sub q,Z.g.sub q⟩
def zt_:=And.intro @z1v <| And.intro @Option.bind_some.{0,0} <| And.intro @zk <| And.intro @Nat.zero_add <| And.intro @Nat.add_zero <| And.intro @zm <| And.intro @zgl <| And.intro @z08 <| And.intro @H.next_new <| And.intro @List.getElem?_cons_zero.{0} <| And.intro @List.getElem?_cons_succ.{0} <| And.intro @if_true.{1} <| And.intro @if_false.{1} <| And.intro @z0x <| And.intro @Bool.not_true <| @Bool.not_false
theorem znz {i:Nat} (h:i<=100000):wr .i64 ((i:Int)+1)=((i+1:Nat):Int):=by rw[wr64 (by omega) (by omega)]; rfl
theorem z09v (x:HoldR) (l:List HoldR) (w q:Int):z03e (x :: l) w q=if x.is w q then x.n else z03e l w q:=by
 unfold z03e
 rw[List.find?_cons]
 cases x.is w q <;> rfl
theorem z0gx (x:HoldR) (l:List HoldR) (w:Int):z031 (x :: l) w=(if x.c=w then 1 else 0)+z031 l w:=by
 unfold z031
 rw[List.filter_cons]
 by_cases h:x.c=w
 ·simp[h]; omega
 ·simp[h]
theorem zi1 {k:Cfg}{h:H} (ok:h.ok) {s:StV}{r:RSt} (Z:RowHo h.get s.h r.Hs) (hB:r.Hs.length<=100000) (w q:Int) :
  Ev (C 229 [s.v k,.int .i64 w,.int .u64 q] h) fun z=>z.1=.int .i64 (r.node w q)/\Fr [] h z.2:=by
 refine z0e (af:=F.z1t) (by kernel_rfl) rfl ?_
 unfold StV.v
 rw[S.zzw]
 simp only[S.z1t]
 have F0:Fr [] h (h.new (.cells [.int .i64 k.s,.int .i64 k.a,.int .i64 k.c,.int .i64 k.hd,.int .i64 k.g,.int .i64 k.st,s.f,s.h,s.w,s.c,s.g] .rw)):=(Fr.refl ok).new _
 have hp:=ze h (.cells [.int .i64 k.s,.int .i64 k.a,.int .i64 k.c,.int .i64 k.hd,.int .i64 k.g,.int .i64 k.st,s.f,s.h,s.w,s.c,s.g] .rw)
 have Z':RowHo (h.new (.cells [.int .i64 k.s,.int .i64 k.a,.int .i64 k.c,.int .i64 k.hd,.int .i64 k.g,.int .i64 k.st,s.f,s.h,s.w,s.c,s.g] .rw)).get s.h r.Hs:=Z.sub ((Sub.refl _).fr0 ok F0)
 generalize h.new (.cells [.int .i64 k.s,.int .i64 k.a,.int .i64 k.c,.int .i64 k.hd,.int .i64 k.g,.int .i64 k.st,s.f,s.h,s.w,s.c,s.g] .rw)=g0 at F0 hp Z' ⊢
 generalize h.next=p at hp ⊢
 have hone:=Z.one
 generalize s.h=sh at hp hone Z Z' ⊢
 have hlen:=Z'.len
 have hld:ldB (g0.get p) 7=some sh:=by rw[hp,z08]; simp only[List.getElem?_cons_succ,List.getElem?_cons_zero,hone]
 refine z0f (α:=Nat) (fun i=>S.z7g (.int .i64 w) (.int .u64 q) (.ptr p 0) (.int .i64 (i:Nat)))
  (fun i g=>i<=r.Hs.length/\g=g0/\z03e (r.Hs.drop i) w q=r.node w q) (fun i _=>r.Hs.length-i)
  (fun z=>z.2.2=g0/\((z.1=.exit 0/\z.2.1=S.z56 .dead/\r.node w q = -1)\/(z.1=.ret/\z.2.1=S.z56 (.int .i64 (r.node w q))))) 0 rfl ⟨Nat.zero_le _,rfl,rfl⟩ ?_ ?_
 rotate_left
 ·rintro⟨_,_,g⟩ ⟨rfl,⟨rfl,rfl,hn⟩ | ⟨rfl,rfl⟩⟩
  ·show Ev (S.z8x W (.exit 0) _ _) _
   rw[S.zsi]
   exact Ev.some ⟨by rw[hn],F0⟩
  ·show Ev (S.z8x W .ret _ _) _
   rw[S.zud]
   exact Ev.some ⟨rfl,F0⟩
 rintro i g ⟨hi,rfl,hn⟩
 rw[S.zw4]
 by_cases hin:i<r.Hs.length
 rotate_left
 ·have d:decide ((i:Int)<(r.Hs.length:Int))=false:=decide_eq_false (by omega)
  simp only[S.z7e,zt_,Int.reduceNeg,hld,hlen,d]
  refine Ev.some (.inr ⟨by simp,rfl,.inl ⟨rfl,rfl,?_⟩⟩)
  rw[List.drop_of_length_le (by omega)] at hn
  exact hn.symm
 obtain⟨y,hy⟩:∃y,r.Hs[i]?=some y:=⟨_,List.getElem?_eq_getElem hin⟩
 have d:decide ((i:Int)<(r.Hs.length:Int))=true:=zll hin
 obtain⟨b,ix,l0,l1,l2,_⟩:=Z'.at hy
 have hdrop:r.Hs.drop i=y :: r.Hs.drop (i+1):=by
  rw[List.drop_eq_getElem_cons hin]
  rw[List.getElem?_eq_getElem hin] at hy
  rw[Option.some.inj hy]
 rw[hdrop,z09v] at hn
 have wi:=znz (i:=i) (by omega)
 by_cases hc:y.c=w
 ·have dc:decide (y.c=w)=true:=decide_eq_true hc
  by_cases hq:y.h=q
  ·have dq:decide (y.h=q)=true:=decide_eq_true hq
   have his:y.is w q=true:=by unfold HoldR.is; rw[dc,dq]; rfl
   rw[if_pos his] at hn
   simp only[S.z7e,zt_,Int.reduceNeg,hld,hlen,d,ix,l0,l1,l2,dc,dq]
   exact Ev.some (.inr ⟨by simp,rfl,.inr ⟨rfl,by rw[hn]⟩⟩)
  ·have dq:decide (y.h=q)=false:=decide_eq_false hq
   have his:¬y.is w q=true:=by unfold HoldR.is; rw[dc,dq]; simp
   rw[if_neg his] at hn
   simp only[S.z7e,zt_,Int.reduceNeg,hld,hlen,d,ix,l0,l1,dc,dq,wi]
   exact Ev.some (.inl ⟨i+1,rfl,rfl,⟨hin,rfl,hn⟩,Nat.sub_lt_sub_left hin (Nat.lt_succ_self i)⟩)
 ·have dc:decide (y.c=w)=false:=decide_eq_false hc
  have his:¬y.is w q=true:=by unfold HoldR.is; rw[dc]; simp
  rw[if_neg his] at hn
  simp only[S.z7e,zt_,Int.reduceNeg,hld,hlen,d,ix,l0,dc,wi]
  exact Ev.some (.inl ⟨i+1,rfl,rfl,⟨hin,rfl,hn⟩,Nat.sub_lt_sub_left hin (Nat.lt_succ_self i)⟩)
theorem z0dp {k:Cfg}{h:H} (ok:h.ok) {s:StV}{r:RSt} (Z:RowHo h.get s.h r.Hs) (hB:r.Hs.length<=100000) (w:Int) :
  Ev (C 231 [s.v k,.int .i64 w] h) fun z=>z.1=.int .i64 (r.held w:Nat)/\Fr [] h z.2:=by
 refine z0e (af:=F.z1u) (by kernel_rfl) rfl ?_
 unfold StV.v
 rw[S.z00p]
 simp only[S.z1u]
 have F0:Fr [] h (h.new (.cells [.int .i64 k.s,.int .i64 k.a,.int .i64 k.c,.int .i64 k.hd,.int .i64 k.g,.int .i64 k.st,s.f,s.h,s.w,s.c,s.g] .rw)):=(Fr.refl ok).new _
 have hp:=ze h (.cells [.int .i64 k.s,.int .i64 k.a,.int .i64 k.c,.int .i64 k.hd,.int .i64 k.g,.int .i64 k.st,s.f,s.h,s.w,s.c,s.g] .rw)
 have Z':RowHo (h.new (.cells [.int .i64 k.s,.int .i64 k.a,.int .i64 k.c,.int .i64 k.hd,.int .i64 k.g,.int .i64 k.st,s.f,s.h,s.w,s.c,s.g] .rw)).get s.h r.Hs:=Z.sub ((Sub.refl _).fr0 ok F0)
 generalize h.new (.cells [.int .i64 k.s,.int .i64 k.a,.int .i64 k.c,.int .i64 k.hd,.int .i64 k.g,.int .i64 k.st,s.f,s.h,s.w,s.c,s.g] .rw)=g0 at F0 hp Z' ⊢
 generalize h.next=p at hp ⊢
 have hone:=Z.one
 generalize s.h=sh at hp hone Z Z' ⊢
 have hlen:=Z'.len
 have hld:ldB (g0.get p) 7=some sh:=by rw[hp,z08]; simp only[List.getElem?_cons_succ,List.getElem?_cons_zero,hone]
 refine z0f (α:=Nat × Nat) (fun i=>S.z7c (.int .i64 w) (.ptr p 0) (.int .i64 (i.2:Nat)) (.int .i64 (i.1:Nat)))
  (fun i g=>i.1<=r.Hs.length/\g=g0/\i.2<=i.1/\i.2+z031 (r.Hs.drop i.1) w=r.held w) (fun i _=>r.Hs.length-i.1)
  (fun z=>z.2.2=g0/\z.1=.exit 0/\z.2.1=S.zge (.int .i64 (r.held w:Nat))) (0,0) rfl ⟨Nat.zero_le _,rfl,Nat.le_refl _,Nat.zero_add _⟩ ?_ ?_
 rotate_left
 ·rintro⟨_,_,g⟩ ⟨rfl,rfl,rfl⟩
  show Ev (S.zi0 W (.exit 0) _ _) _
  rw[S.zt8]
  exact Ev.some ⟨rfl,F0⟩
 rintro⟨i,n⟩ g ⟨hi,rfl,hni,hn⟩
 dsimp only at hi hni hn ⊢
 rw[S.zw3]
 by_cases hin:i<r.Hs.length
 rotate_left
 ·have d:decide ((i:Int)<(r.Hs.length:Int))=false:=decide_eq_false (by omega)
  simp only[S.zax,zt_,hld,hlen,d]
  rw[List.drop_of_length_le (by omega)] at hn
  have hn':n=r.held w:=hn
  exact Ev.some (.inr ⟨by simp,rfl,rfl,by rw[hn']⟩)
 obtain⟨y,hy⟩:∃y,r.Hs[i]?=some y:=⟨_,List.getElem?_eq_getElem hin⟩
 have d:decide ((i:Int)<(r.Hs.length:Int))=true:=zll hin
 obtain⟨b,ix,l0,l1,l2,_⟩:=Z'.at hy
 have hdrop:r.Hs.drop i=y :: r.Hs.drop (i+1):=by
  rw[List.drop_eq_getElem_cons hin]
  rw[List.getElem?_eq_getElem hin] at hy
  rw[Option.some.inj hy]
 rw[hdrop,z0gx] at hn
 have wi:=znz (i:=i) (by omega)
 have wn:=znz (i:=n) (by omega)
 by_cases hc:y.c=w
 ·have dc:decide (y.c=w)=true:=decide_eq_true hc
  rw[if_pos hc] at hn
  simp only[S.zax,zt_,hld,hlen,d,ix,l0,dc,wi,wn]
  exact Ev.some (.inl ⟨(i+1,n+1),rfl,rfl,⟨hin,rfl,by dsimp only; omega,by dsimp only; omega⟩,Nat.sub_lt_sub_left hin (Nat.lt_succ_self i)⟩)
 ·have dc:decide (y.c=w)=false:=decide_eq_false hc
  rw[if_neg hc] at hn
  simp only[S.zax,zt_,hld,hlen,d,ix,l0,dc,wi]
  exact Ev.some (.inl ⟨(i+1,n),rfl,rfl,⟨hin,rfl,by dsimp only; omega,by dsimp only; omega⟩,Nat.sub_lt_sub_left hin (Nat.lt_succ_self i)⟩)
theorem z0ch {k:Cfg}{h:H} (ok:h.ok) {s:StV}{r:RSt} (Z:RowO .u64 h.get s.g r.Gv) (hB:r.Gv.length<=100000) (q:Int) :
  Ev (C 275 [s.v k,.int .u64 q] h) fun z=>z.1=.bool (r.fresh q)/\Fr [] h z.2:=by
 refine z0e (af:=F.z1i) (by kernel_rfl) rfl ?_
 unfold StV.v
 rw[S.zyr]
 simp only[S.z1i]
 have F0:Fr [] h (h.new (.cells [.int .i64 k.s,.int .i64 k.a,.int .i64 k.c,.int .i64 k.hd,.int .i64 k.g,.int .i64 k.st,s.f,s.h,s.w,s.c,s.g] .rw)):=(Fr.refl ok).new _
 have hp:=ze h (.cells [.int .i64 k.s,.int .i64 k.a,.int .i64 k.c,.int .i64 k.hd,.int .i64 k.g,.int .i64 k.st,s.f,s.h,s.w,s.c,s.g] .rw)
 have Z':RowO .u64 (h.new (.cells [.int .i64 k.s,.int .i64 k.a,.int .i64 k.c,.int .i64 k.hd,.int .i64 k.g,.int .i64 k.st,s.f,s.h,s.w,s.c,s.g] .rw)).get s.g r.Gv:=Z.sub ((Sub.refl _).fr0 ok F0)
 generalize h.new (.cells [.int .i64 k.s,.int .i64 k.a,.int .i64 k.c,.int .i64 k.hd,.int .i64 k.g,.int .i64 k.st,s.f,s.h,s.w,s.c,s.g] .rw)=g0 at F0 hp Z' ⊢
 generalize h.next=p at hp ⊢
 have hone:=Z.one
 generalize s.g=sh at hp hone Z Z' ⊢
 have hlen:=Z'.len
 have hld:ldB (g0.get p) 10=some sh:=by rw[hp,z08]; simp only[List.getElem?_cons_succ,List.getElem?_cons_zero,hone]
 refine z0f (α:=Nat) (fun i=>S.z9p (.int .u64 q) (.ptr p 0) (.int .i64 (i:Nat)))
  (fun i g=>i<=r.Gv.length/\g=g0/\(r.Gv.drop i).contains q=r.Gv.contains q) (fun i _=>r.Gv.length-i)
  (fun z=>z.2.2=g0/\((z.1=.exit 0/\z.2.1=S.z4s (.int .u64 q) .dead/\r.Gv.contains q=false)\/(z.1=.ret/\z.2.1=S.z4s (.int .u64 q) (.bool false)/\r.Gv.contains q=true))) 0 rfl ⟨Nat.zero_le _,rfl,rfl⟩ ?_ ?_
 rotate_left
 ·rintro⟨_,_,g⟩ ⟨rfl,⟨rfl,rfl,hn⟩ | ⟨rfl,rfl,hn⟩⟩
  ·show Ev (S.z7r W (.exit 0) _ _) _
   rw[S.zrp]
   exact Ev.some ⟨by unfold RSt.fresh; rw[hn]; rfl,F0⟩
  ·show Ev (S.z7r W .ret _ _) _
   rw[S.zt3]
   exact Ev.some ⟨by unfold RSt.fresh; rw[hn]; rfl,F0⟩
 rintro i g ⟨hi,rfl,hn⟩
 rw[S.zvg]
 by_cases hin:i<r.Gv.length
 rotate_left
 ·have d:decide ((i:Int)<(r.Gv.length:Int))=false:=decide_eq_false (by omega)
  simp only[S.z9q,zt_,hld,hlen,d]
  refine Ev.some (.inr ⟨by simp,rfl,.inl ⟨rfl,rfl,?_⟩⟩)
  rw[List.drop_of_length_le (by omega)] at hn
  exact hn.symm
 obtain⟨y,hy⟩:∃y,r.Gv[i]?=some y:=⟨_,List.getElem?_eq_getElem hin⟩
 have d:decide ((i:Int)<(r.Gv.length:Int))=true:=zll hin
 obtain⟨b,o,ix,l0⟩:=Z'.at hy
 have hdrop:r.Gv.drop i=y :: r.Gv.drop (i+1):=by
  rw[List.drop_eq_getElem_cons hin]
  rw[List.getElem?_eq_getElem hin] at hy
  rw[Option.some.inj hy]
 rw[hdrop,List.contains_cons] at hn
 have wi:=znz (i:=i) (by omega)
 by_cases hq:y=q
 ·have dq:decide (y=q)=true:=decide_eq_true hq
  simp only[S.z9q,zt_,hld,hlen,d,ix,l0,dq]
  refine Ev.some (.inr ⟨by simp,rfl,.inr ⟨rfl,rfl,?_⟩⟩)
  rw[<-hn,hq]; simp
 ·have dq:decide (y=q)=false:=decide_eq_false hq
  have hb:(q == y)=false:=by simp; exact fun h=>hq h.symm
  rw[hb,Bool.false_or] at hn
  simp only[S.z9q,zt_,hld,hlen,d,ix,l0,dq,wi]
  exact Ev.some (.inl ⟨i+1,rfl,rfl,⟨hin,rfl,hn⟩,Nat.sub_lt_sub_left hin (Nat.lt_succ_self i)⟩)
def zu_:=And.intro @z1v <| And.intro @zd <| And.intro @zk <| And.intro @z08 <| And.intro @List.getElem?_cons_zero.{0} <| And.intro @List.getElem?_cons_succ.{0} <| And.intro @Nat.zero_add <| And.intro @Nat.add_zero <| And.intro @zm <| And.intro @Bool.not_true <| And.intro @decide_true <| And.intro @decide_false <| And.intro @if_false.{1} <| And.intro @Bool.not_false <| And.intro @if_true.{1} <| And.intro @Bool.and_true <| And.intro @Bool.and_false <| And.intro @Bool.or_false <| And.intro @Bool.false_or <| And.intro @Bool.or_self <| And.intro @Bool.and_self <| And.intro @z34 <| And.intro @z02 <| And.intro @ze6 <| And.intro @z0x <| And.intro @Option.map_some.{0,0} <| And.intro @z92 <| And.intro @get_put' <| And.intro @H.next_put <| And.intro @List.length_cons.{0} <| And.intro @List.length_nil.{0} <| And.intro @Nat.beq_refl <| And.intro @List.take_zero.{0} <| And.intro @List.drop_succ_cons.{0} <| And.intro @List.drop_zero.{0} <| And.intro @List.cons_append.{0} <| @List.nil_append.{0}
def zy7 (k:Cfg) (r:RSt) (w:Int) (c:CallR):Int :=
 if c.kind=2/\0<=r.fat (r.node w c.h) c.n/\¬(r.held w:Int)<k.hd then 5
 else if c.kind=8/\r.walk w≠0 then 7
 else 0
def ziv (k:Cfg) (r:RSt) (w:Int) (c:CallR):Int :=
 if (2<=c.kind/\c.kind<=5)/\(c.n<0\/((r.fl (r.node w c.h)).length:Int)<=c.n) then 3 else zy7 k r w c
def err9 (k:Cfg) (r:RSt) (w:Int) (c:CallR):Int :=
 if r.node w c.h<0\/((c.kind=3\/c.kind=7)/\¬0<=r.node w c.x)\/(c.kind=5/\((c.x≠0/\¬0<=r.node w c.x)\/(c.y≠0/\¬0<=r.node w c.y))) then 2 else ziv k r w c
def err6 (k:Cfg) (r:RSt) (w:Int) (c:CallR):Int :=
 if r.walk w=0\/r.walk w≠c.h\/(c.kind=9/\(r.come w).length=0) then 6 else if c.kind=9/\¬(r.held w:Int)<k.hd then 5 else 0
theorem zz3 (k:Cfg) (r:RSt) (w:Int) (c:CallR):errR k r w c=(if c.kind<1\/10<c.kind then 8
 else if c.kind=1 then (if c.n<0\/k.a<c.n then 1 else if (r.held w:Int)<k.hd then 0 else 5)
 else if c.kind=9\/c.kind=10 then err6 k r w c else err9 k r w c):=rfl
structure ErrAt (k:Cfg) (s:StV) (r:RSt) (c:CallR) (g:H) (p q:Nat):Prop where
 ok:g.ok
 st:g.get p=some (.cells [.int .i64 k.s,.int .i64 k.a,.int .i64 k.c,.int .i64 k.hd,.int .i64 k.g,.int .i64 k.st,s.f,s.h,s.w,s.c,s.g] .rw)
 cl:g.get q=some (.cells [.int .i64 c.kind,.int .i64 c.n,.int .u64 c.h,.int .u64 c.x,.int .u64 c.y] .rw)
 Z:StAt g.get s r
theorem ErrAt.fr {k:Cfg}{s:StV}{r:RSt}{c:CallR}{g g':H}{p q:Nat} (A:ErrAt k s r c g p q) (F:Fr [] g g'):ErrAt k s r c g' p q :=
 ⟨F.ok,F.get A.ok A.st (by simp),F.get A.ok A.cl (by simp),A.Z.sub ((Sub.refl _).fr0 A.ok F)⟩
section
variable {k:Cfg}{s:StV}{r:RSt}{c:CallR}{g:H}{p q:Nat}
theorem ErrAt.l1 (A:ErrAt k s r c g p q):ldB (g.get p) 1=some (.int .i64 k.a):=by rw[A.st]; rfl
theorem ErrAt.l2 (A:ErrAt k s r c g p q):ldB (g.get p) 2=some (.int .i64 k.c):=by rw[A.st]; rfl
theorem ErrAt.l3 (A:ErrAt k s r c g p q):ldB (g.get p) 3=some (.int .i64 k.hd):=by rw[A.st]; rfl
theorem ErrAt.l6 (A:ErrAt k s r c g p q):ldB (g.get p) 6=some s.f:=by
 rw[A.st,z08]; simp only[List.getElem?_cons_succ,List.getElem?_cons_zero,A.Z.f.one]
theorem ErrAt.l7 (A:ErrAt k s r c g p q):ldB (g.get p) 7=some s.h:=by
 rw[A.st,z08]; simp only[List.getElem?_cons_succ,List.getElem?_cons_zero,A.Z.h.one]
theorem ErrAt.l8 (A:ErrAt k s r c g p q):ldB (g.get p) 8=some s.w:=by
 rw[A.st,z08]; simp only[List.getElem?_cons_succ,List.getElem?_cons_zero,A.Z.w.one]
theorem ErrAt.l9 (A:ErrAt k s r c g p q):ldB (g.get p) 9=some s.c:=by
 rw[A.st,z08]; simp only[List.getElem?_cons_succ,List.getElem?_cons_zero,A.Z.c.one]
theorem ErrAt.lN (A:ErrAt k s r c g p q):ldNB (g.get p) 0 11=some (s.v k):=by rw[A.st]; rfl
end
theorem z0bv:∀(l:List HoldR) (w q:Int),z03e l w q = -1\/∃x∈l,x.c=w/\x.h=q/\x.n=z03e l w q
 | [],_,_=>.inl rfl
 | x :: l,w,q=>by
  rw[z09v]
  by_cases h:x.is w q=true
  ·rw[if_pos h]
   unfold HoldR.is at h
   simp only[Bool.and_eq_true,decide_eq_true_eq] at h
   exact .inr ⟨x,List.mem_cons_self,h.1,h.2,rfl⟩
  ·rw[if_neg h]
   rcases z0bv l w q with e | ⟨y,hy,r⟩
   ·exact .inl e
   ·exact .inr ⟨y,List.mem_cons_of_mem _ hy,r⟩
theorem RIn.node {k:Cfg}{r:RSt} (I:RIn k r) (w q:Int):r.node w q = -1\/(0<=r.node w q/\r.node w q<r.F.length):=by
 rcases z0bv r.Hs w q with e | ⟨x,hx,_,_,e⟩
 ·exact .inl e
 ·have:=(I.hs x hx).2.1
  unfold RSt.node
  rw[<-e]
  exact .inr this
theorem RIn.flAt {k:Cfg}{r:RSt} (I:RIn k r) {w q:Int} (h:0<=r.node w q):∃n:Nat,r.node w q=(n:Int)/\r.F[n]?=some (r.fl (r.node w q)):=by
 rcases I.node w q with e | ⟨h0,h1⟩
 ·omega
 ·refine⟨(r.node w q).toNat,by omega,?_⟩
  unfold RSt.fl
  rw[List.getElem?_eq_getElem (by omega)]; rfl
theorem RSt.fatAt {r:RSt}{n i:Int} (h0:0<=i) (h1:i<((r.fl n).length:Int)):∃j:Nat,i=(j:Int)/\(r.fl n)[j]?=some (r.fat n i):=by
 refine⟨i.toNat,by omega,?_⟩
 unfold RSt.fat
 rw[List.getElem?_eq_getElem (by omega)]; rfl
theorem RIn.walkAt {k:Cfg}{r:RSt} (I:RIn k r) {w:Int} (h0:0<=w) (h1:w<k.c):∃j:Nat,w=(j:Int)/\r.Wk[j]?=some (r.walk w)/\r.Cm[j]?=some (r.come w):=by
 have hC:(k.C:Int)=k.c:=by unfold Cfg.C; omega
 have e1:=I.wk
 have e2:=I.cm
 refine⟨w.toNat,by omega,?_,?_⟩
 ·unfold RSt.walk
  rw[List.getElem?_eq_getElem (by omega)]; rfl
 ·unfold RSt.come
  rw[List.getElem?_eq_getElem (by omega)]; rfl
theorem z0gy {k:Cfg}{s:StV}{r:RSt}{c:CallR}{g:H}{p q:Nat} (A:ErrAt k s r c g p q) (I:RIn k r) {w:Int} (w0:0<=w) (w1:w<k.c) (hn:0<=r.node w c.h) (hf:2<=c.kind->c.kind<=5->0<=c.n/\c.n<((r.fl (r.node w c.h)).length:Int)) :
  Ev ((S.z91 W (S.z94 (.int .i64 w) (.ptr p 0) (.ptr q 0) (.int .i64 (r.node w c.h)) (.bool (decide ((r.held w:Int)<k.hd)))) g).bind fun p0=>S.z7y W p0.1 p0.2.1 p0.2.2) fun z=>z.1=.int .i64 (zy7 k r w c)/\z.2=g:=by
 have hcl:=A.cl
 have l6:=A.l6
 have l8:=A.l8
 obtain⟨nn,en,hF⟩:=I.flAt hn
 obtain⟨b,y,ix,ly,Y⟩:=A.Z.f.at hF
 obtain⟨ww,ew,hW,_⟩:=I.walkAt w0 w1
 obtain⟨b2,o2,iw,lw⟩:=A.Z.w.at hW
 unfold zy7
 rw[<-ew] at iw
 rw[<-en] at ix
 by_cases k2:c.kind=2
 ·obtain⟨h0,h1⟩:=hf (by omega) (by omega)
  obtain⟨j,ej,hj⟩:=RSt.fatAt h0 h1
  obtain⟨b3,o3',i3,l3⟩:=Y.at hj
  rw[<-ej] at i3
  have d2:decide (c.kind=2)=true:=decide_eq_true k2
  have d8:decide (c.kind=8)=false:=decide_eq_false (by omega)
  have n8:¬c.kind=8:=by omega
  by_cases f0:0<=r.fat (r.node w c.h) c.n
  ·have df:decide (0<=r.fat (r.node w c.h) c.n)=true:=decide_eq_true f0
   by_cases rm:(r.held w:Int)<k.hd
   ·have dr:decide ((r.held w:Int)<k.hd)=true:=decide_eq_true rm
    simp only[S.z2n,zu_,S.z3u,S.z3g,S.z4w,V.one,hcl,l6,l8,d2,ix,ly,i3,l3,df,rm,not_true,and_false,n8,false_and]
    exact Ev.some ⟨rfl,rfl⟩
   ·have dr:decide ((r.held w:Int)<k.hd)=false:=decide_eq_false rm
    simp only[S.z2n,zu_,S.zjt,S.z3g,S.zro,Int.reduceEq,V.one,hcl,l6,ix,ly,i3,l3,rm,k2,f0,not_false_eq_true,and_self]
    exact Ev.some ⟨rfl,rfl⟩
  ·have df:decide (0<=r.fat (r.node w c.h) c.n)=false:=decide_eq_false f0
   simp only[S.z2n,zu_,S.z3u,S.z3g,S.z4w,V.one,hcl,l6,l8,d2,ix,ly,i3,l3,f0,n8,false_and,and_false]
   exact Ev.some ⟨rfl,rfl⟩
 ·have d2:decide (c.kind=2)=false:=decide_eq_false k2
  by_cases k8:c.kind=8
  ·have d8:decide (c.kind=8)=true:=decide_eq_true k8
   by_cases hw:r.walk w=0
   ·have dw:decide (r.walk w=0)=true:=decide_eq_true hw
    simp only[S.z2n,zu_,S.z3u,S.z3g,S.z4w,V.one,hcl,l6,l8,d8,iw,lw,k2,hw,ne_eq,not_true,and_false,false_and]
    exact Ev.some ⟨rfl,rfl⟩
   ·have dw:decide (r.walk w=0)=false:=decide_eq_false hw
    have k2':¬(8:Int)=2:=by omega
    simp only[S.z2n,zu_,S.z3u,S.z3g,S.z4w,V.one,hcl,l6,l8,iw,lw,k8,k2',hw,ne_eq,not_false_eq_true,and_self,false_and]
    exact Ev.some ⟨rfl,rfl⟩
  ·have d8:decide (c.kind=8)=false:=decide_eq_false k8
   simp only[S.z2n,zu_,S.z3u,S.z3g,S.z4w,V.one,hcl,l6,l8,k2,k8,false_and]
   exact Ev.some ⟨rfl,rfl⟩
theorem z0i3 {k:Cfg}{s:StV}{r:RSt}{c:CallR}{g:H}{p q:Nat} (A:ErrAt k s r c g p q) (I:RIn k r) {w:Int} (w0:0<=w) (w1:w<k.c) (hn:0<=r.node w c.h) :
  Ev ((S.ze0 W (S.zdt (.int .i64 w) (.ptr p 0) (.ptr q 0) (.int .i64 (r.node w c.h)) (.bool (decide ((r.held w:Int)<k.hd)))) g).bind fun p0=>S.zbi W p0.1 p0.2.1 p0.2.2) fun z=>z.1=.int .i64 (ziv k r w c)/\z.2=g:=by
 have hcl:=A.cl
 have l6:=A.l6
 obtain⟨nn,en,hF⟩:=I.flAt hn
 obtain⟨b,y,ix,ly,Y⟩:=A.Z.f.at hF
 have hyl:=Y.len
 rw[<-en] at ix
 have fin:ziv k r w c=zy7 k r w c->(2<=c.kind->c.kind<=5->0<=c.n/\c.n<((r.fl (r.node w c.h)).length:Int))->Ev ((S.z91 W (S.z94 (.int .i64 w) (.ptr p 0) (.ptr q 0) (.int .i64 (r.node w c.h)) (.bool (decide ((r.held w:Int)<k.hd)))) g).bind fun p0=>S.z7y W p0.1 p0.2.1 p0.2.2) fun z=>z.1=.int .i64 (ziv k r w c)/\z.2=g:=fun e hf=>by
  rw[e]; exact z0gy A I w0 w1 hn hf
 have bad:(2<=c.kind/\c.kind<=5)/\(c.n<0\/((r.fl (r.node w c.h)).length:Int)<=c.n)->ziv k r w c=3:=fun hc=>by unfold ziv; rw[if_pos hc]
 have good:¬((2<=c.kind/\c.kind<=5)/\(c.n<0\/((r.fl (r.node w c.h)).length:Int)<=c.n))->ziv k r w c=zy7 k r w c:=fun hc=>by unfold ziv; rw[if_neg hc]
 by_cases k2:2<=c.kind
 ·have d2:decide (2<=c.kind)=true:=decide_eq_true k2
  by_cases k5:c.kind<=5
  ·have d5:decide (c.kind<=5)=true:=decide_eq_true k5
   by_cases n0:c.n<0
   ·have dn:decide (c.n<0)=true:=decide_eq_true n0
    simp only[S.z5y,zu_,S.z3y,S.zih,S.zdz,V.one,hcl,d2,d5,dn]
    exact Ev.some ⟨by rw[bad ⟨⟨k2,k5⟩,.inl n0⟩],rfl⟩
   ·have dn:decide (c.n<0)=false:=decide_eq_false n0
    by_cases nl:((r.fl (r.node w c.h)).length:Int)<=c.n
    ·have dl:decide (((r.fl (r.node w c.h)).length:Int)<=c.n)=true:=decide_eq_true nl
     simp only[S.z5y,zu_,S.z3y,S.zih,S.zdz,V.one,hcl,l6,ix,ly,hyl,d2,d5,dn,dl]
     exact Ev.some ⟨by rw[bad ⟨⟨k2,k5⟩,.inr nl⟩],rfl⟩
    ·have dl:decide (((r.fl (r.node w c.h)).length:Int)<=c.n)=false:=decide_eq_false nl
     simp only[S.z5y,zu_,S.z3y,S.zc1,S.z9a,V.one,hcl,l6,ix,ly,hyl,d2,d5,dn,dl]
     exact fin (good (fun q=>q.2.elim n0 nl)) (fun _ _=>⟨Int.not_lt.mp n0,Int.not_le.mp nl⟩)
  ·have d5:decide (c.kind<=5)=false:=decide_eq_false k5
   simp only[S.z5y,zu_,S.z3y,S.zc1,S.z9a,V.one,hcl,d2,d5]
   exact fin (good (fun q=>k5 q.1.2)) (fun _ h=>absurd h k5)
 ·have d2:decide (2<=c.kind)=false:=decide_eq_false k2
  simp only[S.z5y,zu_,S.z3y,S.zc1,S.z9a,V.one,hcl,d2]
  exact fin (good (fun q=>k2 q.1.1)) (fun h _=>absurd h k2)
def bad9 (nh nx ny:Int) (c:CallR):Bool:=decide (nh<0) || (decide (c.kind=3) && !decide (0<=nx)) || (decide (c.kind=7) && !decide (0<=nx)) || (decide (c.kind=5) && ((!decide (c.x=0) && !decide (0<=nx)) || (!decide (c.y=0) && !decide (0<=ny))))
theorem z0gj (k:Cfg) (r:RSt) (w:Int) (c:CallR):err9 k r w c=if bad9 (r.node w c.h) (r.node w c.x) (r.node w c.y) c then 2 else ziv k r w c:=by
 unfold err9 bad9
 congr 1
 simp only[Bool.or_eq_true,Bool.and_eq_true,decide_eq_true_eq,Bool.not_eq_true',decide_eq_false_iff_not,eq_iff_iff,ne_eq]
 constructor
 ·rintro(h | ⟨h | h,i⟩ | h)
  ·exact .inl (.inl (.inl h))
  ·exact .inl (.inl (.inr ⟨h,i⟩))
  ·exact .inl (.inr ⟨h,i⟩)
  ·exact .inr h
 ·rintro(((h | ⟨h,i⟩) | ⟨h,i⟩) | h)
  ·exact .inl h
  ·exact .inr (.inl ⟨.inl h,i⟩)
  ·exact .inr (.inl ⟨.inr h,i⟩)
  ·exact .inr (.inr h)
theorem z0h0 {k:Cfg}{s:StV}{r:RSt}{c:CallR}{g:H}{p q:Nat} (A:ErrAt k s r c g p q) (w nh nx ny:Int) (rm:Bool) :
  S.z9s W w (.ptr p 0) (.ptr q 0) nh rm (decide (0<=nx)) (decide (0<=ny)) g=some (.normal,S.zo (.int .i64 w) (.ptr p 0) (.ptr q 0) (.int .i64 nh) (.bool rm) (.bool (bad9 nh nx ny c)),g):=by
 have hcl:=A.cl
 unfold bad9
 cases d0:decide (nh<0) with
 | true=>simp only[S.z9s,d0,Bool.true_or]
 | false =>
  cases dx:decide (0<=nx) <;> cases dy:decide (0<=ny) <;> cases d3:decide (c.kind=3) <;> cases d7:decide (c.kind=7) <;> cases d5:decide (c.kind=5) <;> cases ex:decide (c.x=0) <;> cases ey:decide (c.y=0) <;>
   simp only[S.z9s,zu_,V.one,hcl,d0,d3,d7,d5,ex,ey]
theorem z0kt (p:Nat->Bool) (n:Nat):((List.range (n+1)).filter p).length=((List.range n).filter p).length+if p n then 1 else 0:=by
 rw[List.range_succ,List.filter_append,List.length_append]
 by_cases h:p n
 ·simp[h]
 ·simp[h]
structure BookT where
 now:Int
 born:Int->Option Int
 turned:Int->Option Int
end Wm
end
noncomputable section
namespace Wm
def Made (o:Option (V × H)) (h:H) (b:Bool):Prop:=∃l v,o=some (v,h.ext l)/\match b with
 | true=>∃p q,v=.ptr p q
 | false=>v=.nilp
end Wm
end
noncomputable section
namespace Wm
attribute [local congr] zi
attribute [local irreducible] wr
structure Adr where
 p:Nat
 pw:Nat
 bk:Nat
 m1:Nat
 m2:Nat
section
variable {h:H}{A:Adr}{k:Cfg}{f:Wd->Int}{n:Int}{B:BookT}
end
def sl (o:Option Nat):Int:=match o with
 | none => -1
 | some q=>q
def Go {X:Type} (st:X->X) (fin:X->Prop):Nat->X->(X->Prop)->Prop
 | 0,_,_=>False
 | m+1,x,Q=>(fin (st x)/\Q (st x))\/(¬fin (st x)/\Go st fin m (st x) Q)
section
variable {X:Type}{st:X->X}{fin:X->Prop}
end
structure Psh where
 at':Int
 top:Int
structure Fre where
 back:Bool
 gone:Bool
 now:Int
 push:Option Psh
 next:Int
structure Rcl where
 back:Nat
 gone:Nat
 slot:Nat
 free:Option Fre
abbrev z0lp:=Rcl × (Wd->Int) × Int
def z0n6 (k:Cfg) (x:z0lp):Prop:=x.1.slot=k.S
instance (k:Cfg) (x:z0lp):Decidable (z0n6 k x):=inferInstanceAs (Decidable (x.1.slot=k.S))
end Wm
end
noncomputable section
namespace Wm
def nmO (k:Cfg) (w:Int):Option Nat:=if 1<=w/\w<=k.S then some (w-1).toNat else none
def z0ns (k:Cfg) (f:Wd->Int) (q i:Nat):Option Nat:=nmO k (f (.body q i))
def z0mi (k:Cfg) (f:Wd->Int) (q:Nat):List Nat :=
 if (unp (f (.header q))).kind=1 then List.range (min (unp (f (.header q))).arity.toNat k.room) else if (unp (f (.header q))).kind=2 then [0,2] else []
def z0ig (k:Cfg) (f:Wd->Int) (q:Nat):List Nat:=(z0mi k f q).filterMap (z0ns k f q)
def z0n8 (k:Cfg) (f:Wd->Int) (c i:Nat):Option Nat:=nmO k (f (.entry c i) % 4294967296)
def z0ng (k:Cfg) (f:Wd->Int) (c:Nat):Option Nat:=nmO k (f (.start c))
def z0n3 (k:Cfg) (f:Wd->Int) (c:Nat):List Nat:=(List.range k.H).filterMap (z0n8 k f c) ++ (z0ng k f c).toList
def z0ix (k:Cfg) (f:Wd->Int) (n:Nat):List Nat:=(List.range n).flatMap (z0n3 k f)
section
variable (k:Cfg) (f:Wd->Int) (e:Int)
def mkd (q:Nat):Bool:=z0mw (f (.header q)) e
def wht (q:Nat):Bool:=z0oc (f (.header q)) e
def gry (q:Nat):Bool:=(unp (f (.header q))).gray
def thr (X:Nat->Bool) (p:Nat):Bool:=gry f p || (X p && !mkd f e p)
structure FClosed (X:Nat->Bool):Prop where
 m:∀q,q<k.S->mkd f e q=true->X q=true
 r:∀q∈z0ix k f k.C,wht f e q=true->X q=true
 n:∀p,p<k.S->thr f e X p=true->∀q∈z0ig k f p,wht f e q=true->X q=true
end
def bupd (X:Nat->Bool) (s:Nat):Nat->Bool:=fun q=>if q=s then true else X q
theorem z06c (X:Nat->Bool) (s:Nat):bupd X s s=true:=if_pos rfl
theorem z0a3 {X:Nat->Bool}{s q:Nat} (h:q≠s):bupd X s q=X q:=if_neg h
def nfN (X:Nat->Bool) (n:Nat):Nat:=((List.range n).filter fun q=>!X q).length
theorem z08f (X:Nat->Bool) (n:Nat):nfN X (n+1)=nfN X n+if X n then 0 else 1:=by
 unfold nfN
 rw[z0kt]
 cases X n <;> rfl
theorem z082 {X:Nat->Bool}{s:Nat} (hs:X s=false):∀n,nfN (bupd X s) n+(if s<n then 1 else 0)=nfN X n
 | 0=>rfl
 | n+1=>by
  have ih:=z082 hs n
  rw[z08f,z08f]
  by_cases h:n=s
  ·subst h
   rw[z06c,hs]
   simp at ih ⊢
   omega
  ·rw[z0a3 h]
   by_cases h2:s<n
   ·rw[if_pos h2] at ih
    rw[if_pos (show s<n+1 by omega)]
    omega
   ·rw[if_neg h2] at ih
    rw[if_neg (show ¬s<n+1 by omega)]
    omega
structure Fnd where
 X:Nat->Bool
 todo:List Nat
structure Inv (k:Cfg) (f:Wd->Int) (e:Int) (s:Fnd) (P:List Nat):Prop where
 a:∀q,q<k.S->mkd f e q=true->s.X q=true
 b:∀Y,FClosed k f e Y->∀q,q<k.S->s.X q=true->Y q=true
 c:∀t∈s.todo,t<k.S/\thr f e s.X t=true
 d:∀q∈z0ix k f k.C,wht f e q=true->s.X q=true\/q∈P
 n:∀p,p<k.S->thr f e s.X p=true->p∈s.todo\/∀q∈z0ig k f p,wht f e q=true->s.X q=true\/q∈P
 p:∀q∈P,q<k.S/\∀Y,FClosed k f e Y->wht f e q=true->Y q=true
 m:s.todo.length+nfN s.X k.S<=2 * k.S
end Wm
end
noncomputable section
namespace Wm
attribute [local congr] zi
attribute [local irreducible] wr
structure Evt where
 client:Int
 op:Int
 begun:Int
 point:Int
 ended:Int
 behind:Bool
 kind:Int
 n:Int
 h:Int
 x:Int
 y:Int
 err:Int
 ah:Int
 yes:Bool
def Evt.cs (e:Evt):List V:=[.int .i64 e.client,.int .i64 e.op,.int .i64 e.begun,.int .i64 e.point,.int .i64 e.ended,.bool e.behind,.int .i64 e.kind,.int .i64 e.n,.int .u64 e.h,.int .u64 e.x,.int .u64 e.y,.int .i64 e.err,.int .u64 e.ah,.bool e.yes]
def z0lq:List CSh:=[.int .i64,.int .i64,.int .i64,.int .i64,.int .i64,.bool,.int .i64,.int .i64,.int .u64,.int .u64,.int .u64,.int .i64,.int .u64,.bool]
def RowE (g:Nat->Option Blk) (x:V) (l:List Evt):Prop:=(x=.nilsl/\l=[])\/∃b c k,x=.sl b 0 l.length c/\g b=some (.cells (l.map Evt.cs).flatten k)
theorem z0cx (l:List Evt):∀x∈l.map Evt.cs,x.length=14:=fun x hx=>by
 obtain⟨_,_,rfl⟩:=List.mem_map.mp hx; rfl
theorem RowE.len {g:Nat->Option Blk}{x:V}{l:List Evt} (h:RowE g x l):lenSl x=some l.length:=by
 obtain⟨rfl,rfl⟩ | ⟨b,c,k,rfl,_⟩:=h <;> rfl
theorem RowE.fr {g g':H}{L:List Nat}{x:V}{l:List Evt} (h:RowE g.get x l) (ok:g.ok) (F:Fr L g g') (hL:∀b∈x.blk,b∉L):RowE g'.get x l:=by
 obtain h1 | ⟨b,c,k,rfl,hb⟩:=h
 ·exact .inl h1
 ·exact .inr ⟨b,c,k,rfl,F.get ok hb (hL b (by simp[V.blk]))⟩
theorem RowE.lt {g:H}{x:V}{l:List Evt} (h:RowE g.get x l) (ok:g.ok):∀b∈x.blk,b<g.next:=by
 obtain⟨rfl,rfl⟩ | ⟨b,c,k,rfl,hb⟩:=h
 ·simp[V.blk]
 ·intro c' hc; simp only[V.blk,List.mem_singleton] at hc; subst hc; exact ok.lt hb
theorem RowE.at {g:H}{x:V}{l:List Evt} (h:RowE g.get x l) {i:Nat}{y:Evt} (hy:l[i]?=some y) :
  ∃b,z0 14 x (.int .i64 (i:Int))=some (.ptr b (i * 14))/\ldNB (g.get b) (i * 14) 14=some (.agg y.cs)/\ldB (g.get b) (i * 14+2)=some (.int .i64 y.begun)/\ldB (g.get b) (i * 14+4)=some (.int .i64 y.ended)/\ldB (g.get b) (i * 14+1)=some (.int .i64 y.op)/\b∈x.blk:=by
 have hi:=z0a hy
 obtain⟨rfl,rfl⟩ | ⟨b,c,k,rfl,hb⟩:=h
 ·simp at hy
 ·have hn:(l.map Evt.cs).flatten.length=l.length * 14:=by rw[zc7 (z0cx l),List.length_map]
  have hp:=zwk (z0cx l) i y.cs (by rw[List.getElem?_map,hy]; rfl)
  have at':∀j,j<14->(l.map Evt.cs).flatten[i * 14+j]?=y.cs[j]?:=fun j hj=>by
   rw[<-hp,List.getElem?_take,if_pos hj,List.getElem?_drop]
  refine⟨b,z06j hi,?_,?_,?_,?_,by simp[V.blk]⟩
  ·rw[hb,z4c,decide_eq_true (by rw[hn]; omega),hp]
  ·rw[hb,z08,at' 2 (by decide)]; rfl
  ·rw[hb,z08,at' 4 (by decide)]; rfl
  ·rw[hb,z08,at' 1 (by decide)]; rfl
theorem z0gs (a b:Evt) (h:H):C 183 [.agg a.cs,.agg b.cs] h=some (.bool (decide (a.ended<b.begun)),h):=by
 refine za7 (af:=F.zit) (by kernel_rfl) rfl (by rfl) (by rfl) h ?_
 unfold Evt.cs
 rw[S.z0cm]
 have h0:H.empty.next=0:=rfl
 simp only[S.zit,zt_,V.one,reduceCtorEq,h0]
 exact Ev.some rfl
theorem z0ct (a b:Evt) (h:H):C 184 [.agg a.cs,.agg b.cs] h=some (.bool (decide (a.ended<b.begun)),h):=by
 refine za7 (af:=F.z8p) (by kernel_rfl) rfl (by rfl) (by rfl) h ?_
 unfold Evt.cs
 rw[S.z059]
 have h0:H.empty.next=0:=rfl
 simp only[S.z8p,zt_,V.one,reduceCtorEq,h0]
 exact Ev.some rfl
def z8h (l:List Bool):List V:=l.map .bool
theorem z073 (l:List Bool):(z8h l).length=l.length:=List.length_map _
theorem z0d9 {l:List Bool}{i:Nat}{v:Bool} (h:l[i]?=some v):(z8h l)[i]?=some (.bool v):=by unfold z8h; rw[List.getElem?_map,h]; rfl
theorem z0bl (l:List Bool) (i:Nat) (v:Bool):(z8h l).set i (.bool v)=z8h (l.set i v):=by unfold z8h; rw[List.map_set]
theorem z0iw (n:Nat):repl [V.bool false] n=z8h (List.replicate n false):=by
 unfold z8h
 induction n with
 | zero=>rfl
 | succ n ih=>simp only[repl,ih,List.replicate_succ,List.map_cons,List.cons_append,List.nil_append]
theorem z0gr {h:H}{n:Nat} (hn:n<=1000000):h.mkSl 1 1 [(.bool false)] (n:Int) (n:Int)=some (.sl h.next 0 n (.ex n),h.new (.cells (z8h (List.replicate n false)) .rw)):=by
 have h0:(0:Int)<=(n:Int):=Int.natCast_nonneg n
 have h1:(n:Int) * ((1:Nat):Int)<=140737488355328:=by omega
 have h2:(n:Int)<=9223372036854775807:=by omega
 rw[zvi (e:=1) (z:=[.bool false]) h0 (Int.le_refl _) h1 h2 rfl (by decide),Int.toNat_natCast,z0iw]
def bF (X:Nat->Bool) (n:Nat):List Bool:=(List.range n).map X
theorem z02h (X:Nat->Bool) (n:Nat):(bF X n).length=n:=by unfold bF; rw[List.length_map,List.length_range]
theorem z0h7 {X:Nat->Bool}{n q:Nat} (h:q<n):(bF X n)[q]?=some (X q):=by unfold bF; rw[List.getElem?_map,List.getElem?_range h]; rfl
def bset (X:Nat->Bool) (s:Nat) (v:Bool):Nat->Bool:=fun q=>if q=s then v else X q
theorem z0b5 (X:Nat->Bool) (s:Nat):bset X s true=bupd X s:=rfl
theorem z0nj {X:Nat->Bool}{n s:Nat}{v:Bool}:(bF X n).set s v=bF (bset X s v) n:=by
 apply List.ext_getElem?
 intro i
 rw[List.getElem?_set]
 by_cases hi:i<n
 ·rw[z0h7 (X:=bset X s v) hi]
  by_cases h:s=i
  ·subst h
   rw[if_pos rfl,if_pos (by rw[z02h]; exact hi)]
   simp[bset]
  ·rw[if_neg h,z0h7 hi]
   unfold bset; rw[if_neg (Ne.symm h)]
 ·have h1:(bF (bset X s v) n)[i]?=none:=List.getElem?_eq_none (by rw[z02h]; omega)
  have h2:(bF X n)[i]?=none:=List.getElem?_eq_none (by rw[z02h]; omega)
  rw[h1,h2,z02h]
  by_cases h:s=i
  ·rw[if_pos h,if_neg (by omega)]
  ·rw[if_neg h]
theorem z0k7 (n:Nat):List.replicate n false=bF (fun _=>false) n:=by
 unfold bF
 rw[List.map_const',List.length_range]
def TruAt (g:H) (b:Nat) (X:Nat->Bool) (n:Nat):Prop:=g.get b=some (.cells (z8h (bF X n)) .rw)
theorem TruAt.ld {g:H}{b:Nat}{X:Nat->Bool}{n q:Nat} (Z:TruAt g b X n) (h:q<n):ldB (g.get b) q=some (.bool (X q)):=by
 unfold TruAt at Z
 rw[Z,z08,z0d9 (z0h7 h)]; rfl
theorem TruAt.stB {g:H}{b:Nat}{X:Nat->Bool}{n q:Nat} (Z:TruAt g b X n) (h:q<n) (v:Bool):stB (g.get b) q [.bool v]=some (.cells (z8h (bF (bset X q v) n)) .rw):=by
 unfold TruAt at Z
 have hne0:decide (Bk.rw=Bk.ro)=false:=rfl
 have hone:[V.bool v].all V.one=true:=rfl
 have hlen:[V.bool v].length=1:=rfl
 have hle:decide (q+1<=(z8h (bF X n)).length)=true:=decide_eq_true (by rw[z073,z02h]; exact h)
 rw[Z,z6q,hlen,hle,hone,hne0]
 show some (Blk.cells (z07 _ _ _) _)=_
 unfold z07
 rw[hlen,<-z0nj,<-z0bl,List.set_eq_take_append_cons_drop,if_pos (by rw[z073,z02h]; exact h),List.append_assoc]; rfl
end Wm
end
noncomputable section
namespace Wm
attribute [local irreducible] wr
structure Seen (n:Nat) (l:List Int) (X:Nat->Bool):Prop where
 x:∀q,q<n->X q=l.contains (q:Int)
 len:l.length+nfN X n=n
 all:∀v∈l,0<=v/\v<n
theorem z0j4 (n:Nat):nfN (fun _=>false) n=n:=by
 induction n with
 | zero=>rfl
 | succ n ih=>rw[z08f,ih]; rfl
theorem Seen.one {n q:Nat} (h:q<n):Seen n [(q:Int)] (bupd (fun _=>false) q):=by
 refine⟨fun i hi => ?_,?_,?_⟩
 ·rw[List.contains_cons]
  by_cases e:i=q
  ·subst e; rw[z06c]; simp
  ·rw[z0a3 e]
   have:((i:Int) == (q:Int))=false:=by simp; omega
   rw[this]; rfl
 ·have h1:=z082 (X:=fun _=>false) (s:=q) rfl n
  rw[if_pos h,z0j4] at h1
  simp only[List.length_singleton]; omega
 ·intro v hv
  simp only[List.mem_singleton] at hv
  subst hv; omega
theorem Seen.len_le {n:Nat}{l:List Int}{X:Nat->Bool} (S:Seen n l X):l.length<=n:=by have:=S.len; omega
theorem Seen.push {n:Nat}{l:List Int}{X:Nat->Bool} (S:Seen n l X) {q:Nat} (hq:q<n) (hX:X q=false):Seen n (l ++ [(q:Int)]) (bupd X q):=by
 refine⟨fun i hi => ?_,?_,?_⟩
 ·by_cases e:i=q
  ·subst e; rw[z06c]; simp
  ·rw[z0a3 e,S.x i hi]
   have:((i:Int) == (q:Int))=false:=by simp; omega
   simp only[List.contains_eq_mem,List.mem_append,List.mem_singleton]
   have h2:¬((i:Int)=(q:Int)):=by omega
   simp[h2]
 ·have h1:=z082 hX n
  rw[if_pos hq] at h1
  have:=S.len
  rw[List.length_append,List.length_singleton]; omega
 ·intro v hv
  rcases List.mem_append.mp hv with h | h
  ·exact S.all v h
  ·simp only[List.mem_singleton] at h
   subst h; omega
theorem Seen.skip {r:RSt}{n:Nat}{l:List Int}{X:Nat->Bool} (S:Seen n l X) {v:Int} (h1:v<n) (h:v<0\/X v.toNat=true):r.next l v=l:=by
 unfold RSt.next
 rcases h with h | h
 ·rw[decide_eq_false (by omega)]; rfl
 ·by_cases h0:0<=v
  ·rw[S.x _ (by omega),show((v.toNat:Nat):Int)=v from by omega] at h
   rw[h]; simp
  ·rw[decide_eq_false h0]; rfl
theorem Seen.take {r:RSt}{n:Nat}{l:List Int}{X:Nat->Bool} (S:Seen n l X) {v:Int} (h0:0<=v) (h1:v<n) (h:X v.toNat=false):r.next l v=l ++ [v]:=by
 unfold RSt.next
 rw[S.x _ (by omega),show((v.toNat:Nat):Int)=v from by omega] at h
 rw[h,decide_eq_true h0]; rfl
theorem zti (r:RSt) (l:List Int) (x:Int) (xs:List Int):r.nexts l (x :: xs)=r.nexts (r.next l x) xs:=rfl
theorem z0be (r:RSt) (d i:Nat) (l:List Int) (h:l.length<=i):r.reach d i l=l:=by
 cases d with
 | zero=>rfl
 | succ d=>unfold RSt.reach; rw[List.getElem?_eq_none h]
theorem z08l (r:RSt) (d i:Nat) (l:List Int) {n:Int} (h:l[i]?=some n):r.reach (d+1) i l=r.reach d (i+1) (r.nexts l (r.fl n)):=by
 rw[RSt.reach,h]
def LQ (g:Nat->Option Blk) (x:V) (l:List Int):Prop:=∃b c k,x=.sl b 0 l.length c/\g b=some (.cells (l.map (.int .i64)) k)/\(c=.ex l.length\/(c=.op 1/\k=.gr 1))
theorem LQ.row {g:Nat->Option Blk}{x:V}{l:List Int} (L:LQ g x l):RowO .i64 g x l:=by
 obtain⟨b,c,k,rfl,hb,hc⟩:=L
 refine .inr ⟨b,0,c,k,_,rfl,hb,?_,by rw[List.length_map]; omega,?_⟩
 ·rw[List.drop_zero,List.take_of_length_le (by rw[List.length_map]; omega)]
 ·rcases hc with rfl | ⟨rfl,_⟩
  ·exact .inr ⟨_,rfl,Nat.le_refl _⟩
  ·exact .inl rfl
theorem LQ.fr {g g':H}{L:List Nat}{x:V}{l:List Int} (Q:LQ g.get x l) (ok:g.ok) (F:Fr L g g') (h:∀b∈x.blk,b∉L):LQ g'.get x l:=by
 obtain⟨b,c,k,rfl,hb,hc⟩:=Q
 exact⟨b,c,k,rfl,F.get ok hb (h b (by simp[V.blk])),hc⟩
theorem LQ.push {g:H} (ok:g.ok) {x:V}{l:List Int} (Q:LQ g.get x l) (hl:l.length<=100000) (v:Int) :
  ∃x' g',(g.new (.cells [.int .i64 v] .rw)).append 1 8 x (.sl g.next 0 1 (.ex 1))=some (x',g')/\Fr x.blk g g'/\LQ g'.get x' (l ++ [v])/\(∀b∈x'.blk,g.next<=b):=by
 have F1:Fr [] g (g.new (.cells [.int .i64 v] .rw)):=(Fr.refl ok).new _
 have hnew:(g.new (.cells [.int .i64 v] .rw)).slc 1 (.sl g.next 0 1 (.ex 1))=some [.int .i64 v]:=by
  rw[zhc (ze _ _) (by simp),List.drop_zero,List.take_of_length_le (by simp)]
 have Q1:=Q.fr ok F1 (by simp)
 obtain⟨b,c,k,rfl,hb,hc⟩:=Q1
 have hlen:(l.map (V.int .i64)).length=l.length:=List.length_map _
 have hold:∀c,(g.new (.cells [.int .i64 v] .rw)).slc 1 (.sl b 0 l.length c)=some (l.map (.int .i64)):=fun c=>by
  rw[zhc hb (by omega),List.drop_zero,List.take_of_length_le (by omega)]
 have hfin:∀(g':H),(∃n,n=g'.next)->LQ (g'.new (.cells (l.map (V.int .i64) ++ [.int .i64 v]) (.gr 1))).get (.sl g'.next 0 (l.length+1) (.op 1)) (l ++ [v]):=fun g' _ =>
  ⟨g'.next,.op 1,.gr 1,by rw[List.length_append]; rfl,by rw[ze,List.map_append]; rfl,.inr ⟨rfl,rfl⟩⟩
 rcases hc with rfl | ⟨rfl,rfl⟩
 ·refine⟨_,_,z09w (n:=1) rfl hnew (hold _) rfl (by omega) (by decide) (by decide) (by omega),(F1.mono (by simp)).new _,hfin _ ⟨_,rfl⟩,?_⟩
  intro c' hc'
  simp only[V.blk,List.mem_singleton] at hc'
  subst hc'; exact Nat.le_succ _
 ·refine⟨_,_,z00u (n:=1) rfl hnew (hold _) hb rfl (by omega) (by decide) (by decide),((F1.mono (by simp)).put (.inl (by simp[V.blk])) (F1.ok.lt hb) _).new _,?_,?_⟩
  ·have:=hfin ((g.new (.cells [.int .i64 v] .rw)).put b none) ⟨_,rfl⟩
   exact this
  ·intro c' hc'
   simp only[V.blk,List.mem_singleton] at hc'
   subst hc'; exact Nat.le_succ _
end Wm
end
noncomputable section
namespace Wm
attribute [local congr] zi
attribute [local irreducible] wr
theorem z0jv {k:Cfg}{s:StV}{r:RSt}{c:CallR}{g:H}{p q:Nat} (A:ErrAt k s r c g p q) (I:RIn k r) {w:Int} (w0:0<=w) (w1:w<k.c) (nx ny:Int) (ex:nx=r.node w c.x) (ey:ny=r.node w c.y) :
  Ev ((S.zfd W (S.zes (.int .i64 w) (.ptr p 0) (.ptr q 0) (.int .i64 (r.node w c.h)) (.bool (decide ((r.held w:Int)<k.hd))) (.bool (decide (0<=nx))) (.bool (decide (0<=ny)))) g).bind fun p0=>S.zgu W p0.1 p0.2.1 p0.2.2) fun z=>z.1=.int .i64 (err9 k r w c)/\z.2=g:=by
 rw[S.zvm,z0h0 A,z0gj,<-ex,<-ey,zd,S.zsd]
 cases hb:bad9 (r.node w c.h) nx ny c with
 | true =>
  simp only[S.zff,if_true]
  exact Ev.some ⟨rfl,rfl⟩
 | false =>
  have hn:0<=r.node w c.h:=by
   unfold bad9 at hb
   simp only[Bool.or_eq_false_iff,decide_eq_false_iff_not] at hb
   exact Int.not_lt.mp hb.1.1.1
  simp only[S.zff,Bool.false_eq_true,if_false]
  exact z0i3 A I w0 w1 hn
theorem z0bi {k:Cfg}{s:StV}{r:RSt}{c:CallR}{g:H}{p q:Nat} (A:ErrAt k s r c g p q) (I:RIn k r) {w:Int} (w0:0<=w) (w1:w<k.c) :
  Ev ((S.zf7 W (S.zf9 (.int .i64 w) (.ptr p 0) (.ptr q 0) (.bool (decide ((r.held w:Int)<k.hd)))) g).bind fun p0=>S.zbh W p0.1 p0.2.1 p0.2.2) fun z=>z.1=.int .i64 (err6 k r w c)/\z.2=g:=by
 have hcl:=A.cl
 have l8:=A.l8
 have l9:=A.l9
 obtain⟨ww,ew,hW,hC⟩:=I.walkAt w0 w1
 obtain⟨b2,o2,iw,lw⟩:=A.Z.w.at hW
 obtain⟨b,y,ix,ly,Y⟩:=A.Z.c.at hC
 have hyl:=Y.len
 rw[<-ew] at iw ix
 have bad:(r.walk w=0\/r.walk w≠c.h\/(c.kind=9/\(r.come w).length=0))->err6 k r w c=6:=fun h=>by unfold err6; rw[if_pos h]
 have good:¬(r.walk w=0\/r.walk w≠c.h\/(c.kind=9/\(r.come w).length=0))->err6 k r w c=if c.kind=9/\¬(r.held w:Int)<k.hd then 5 else 0:=fun h=>by unfold err6; rw[if_neg h]
 by_cases h0:r.walk w=0
 ·have d0:decide (r.walk w=0)=true:=decide_eq_true h0
  simp only[S.z3v,zu_,S.z32,S.zc9,S.z9u,V.one,hcl,l8,iw,lw,d0]
  exact Ev.some ⟨by rw[bad (.inl h0)],rfl⟩
 have d0:decide (r.walk w=0)=false:=decide_eq_false h0
 by_cases hh:r.walk w=c.h
 rotate_left
 ·have dh:decide (r.walk w=c.h)=false:=decide_eq_false hh
  simp only[S.z3v,zu_,S.z32,S.zc9,S.z9u,V.one,hcl,l8,iw,lw,d0,dh]
  exact Ev.some ⟨by rw[bad (.inr (.inl hh))],rfl⟩
 have dh:decide (r.walk w=c.h)=true:=decide_eq_true hh
 by_cases k9:c.kind=9
 rotate_left
 ·have d9:decide (c.kind=9)=false:=decide_eq_false k9
  simp only[S.z3v,zu_,S.z32,S.zcv,S.z9z,V.one,hcl,l8,iw,lw,d0,dh,d9]
  exact Ev.some ⟨by rw[good (fun q=>q.elim h0 fun q=>q.elim (fun e=>e hh) fun q=>k9 q.1),if_neg (fun q=>k9 q.1)],rfl⟩
 have d9:decide (c.kind=9)=true:=decide_eq_true k9
 by_cases hl:((r.come w).length:Int)=0
 ·have dl:decide (((r.come w).length:Int)=0)=true:=decide_eq_true hl
  simp only[S.z3v,zu_,S.z32,S.zc9,S.z9u,V.one,hcl,l8,l9,iw,lw,ix,ly,hyl,d0,dh,d9,dl]
  exact Ev.some ⟨by rw[bad (.inr (.inr ⟨k9,by omega⟩))],rfl⟩
 have dl:decide (((r.come w).length:Int)=0)=false:=decide_eq_false hl
 have hg:=good (fun q=>q.elim h0 fun q=>q.elim (fun e=>e hh) fun q=>hl (by rw[q.2]; rfl))
 by_cases rm:(r.held w:Int)<k.hd
 ·have dr:decide ((r.held w:Int)<k.hd)=true:=decide_eq_true rm
  simp only[S.z3v,zu_,S.z32,S.zcv,S.z9z,V.one,hcl,l8,l9,iw,lw,ix,ly,hyl,d0,dh,d9,dl,dr]
  exact Ev.some ⟨by rw[hg,if_neg (fun q=>q.2 rm)],rfl⟩
 ·have dr:decide ((r.held w:Int)<k.hd)=false:=decide_eq_false rm
  simp only[S.z3v,zu_,S.z32,S.zcv,S.z9z,V.one,hcl,l8,l9,iw,lw,ix,ly,hyl,d0,dh,d9,dl,dr]
  exact Ev.some ⟨by rw[hg,if_pos ⟨k9,rm⟩],rfl⟩
theorem z0j7 {k:Cfg}{s:StV}{r:RSt}{c:CallR}{g:H}{p q:Nat} (A:ErrAt k s r c g p q) (I:RIn k r) (hB:r.Hs.length<=100000) {w:Int} (w0:0<=w) (w1:w<k.c) :
  Ev ((S.zfl W (S.zfi (.int .i64 w) (.ptr p 0) (.ptr q 0) (.int .i64 (r.node w c.h)) (.bool (decide ((r.held w:Int)<k.hd)))) g).bind fun p0=>S.zgv W p0.1 p0.2.1 p0.2.2) fun z=>z.1=.int .i64 (if c.kind=9\/c.kind=10 then err6 k r w c else err9 k r w c)/\Fr [] g z.2:=by
 have hcl:=A.cl
 have lN:=A.lN
 have F0:Fr [] g g:=.refl A.ok
 by_cases k9:c.kind=9
 ·have d9:decide (c.kind=9)=true:=decide_eq_true k9
  simp only[S.zdy,zu_,S.z9o,S.zct,S.z9w,V.one,hcl,d9]
  rw[if_pos (.inl k9)]
  exact(z0bi A I w0 w1).mono fun z hz=>⟨hz.1,by rw[hz.2]; exact F0⟩
 have d9:decide (c.kind=9)=false:=decide_eq_false k9
 by_cases k10:c.kind=10
 ·have d10:decide (c.kind=10)=true:=decide_eq_true k10
  simp only[S.zdy,zu_,S.z9o,S.zct,S.z9w,V.one,hcl,d9,d10]
  rw[if_pos (.inr k10)]
  exact(z0bi A I w0 w1).mono fun z hz=>⟨hz.1,by rw[hz.2]; exact F0⟩
 have d10:decide (c.kind=10)=false:=decide_eq_false k10
 rw[if_neg (fun q=>q.elim k9 k10)]
 obtain⟨⟨v1,g1⟩,e1,rfl,F1⟩:=zi1 (k:=k) A.ok A.Z.h hB w c.x
 dsimp only at F1
 have A1:=A.fr F1
 have hcl1:=A1.cl
 have lN1:=A1.lN
 obtain⟨⟨v2,g2⟩,e2,rfl,F2⟩:=zi1 (k:=k) A1.ok A1.Z.h hB w c.y
 dsimp only at F2
 have A2:=A1.fr F2
 simp only[S.zdy,zu_,S.z9o,S.zct,S.z9w,Nat.reduceAdd,V.one,hcl,lN,e1,hcl1,lN1,e2,d9,d10]
 exact(z0jv A2 I w0 w1 _ _ rfl rfl).mono fun z hz=>⟨hz.1,by rw[hz.2]; exact F1.trans' F2⟩
theorem z0jz {k:Cfg}{s:StV}{r:RSt}{c:CallR}{g:H}{p q:Nat} (A:ErrAt k s r c g p q) (I:RIn k r) (hB:r.Hs.length<=100000) {w:Int} (w0:0<=w) (w1:w<k.c) :
  Ev ((S.zf1 W (S.zet (.int .i64 w) (.ptr p 0) (.ptr q 0) (.int .i64 (r.node w c.h)) (.bool (decide ((r.held w:Int)<k.hd)))) g).bind fun p0=>S.zbj W p0.1 p0.2.1 p0.2.2) fun z=>z.1=.int .i64 (errR k r w c)/\Fr [] g z.2:=by
 have hcl:=A.cl
 have l1:=A.l1
 have F0:Fr [] g g:=.refl A.ok
 rw[zz3]
 by_cases k0:c.kind<1
 ·have d0:decide (c.kind<1)=true:=decide_eq_true k0
  simp only[S.z2m,zu_,S.z1z,S.zj3,S.zer,V.one,hcl,d0]
  exact Ev.some ⟨by rw[if_pos (.inl k0)],F0⟩
 have d0:decide (c.kind<1)=false:=decide_eq_false k0
 by_cases k10:10<c.kind
 ·have d10:decide (10<c.kind)=true:=decide_eq_true k10
  simp only[S.z2m,zu_,S.z1z,S.zj3,S.zer,V.one,hcl,d0,d10]
  exact Ev.some ⟨by rw[if_pos (.inr k10)],F0⟩
 have d10:decide (10<c.kind)=false:=decide_eq_false k10
 rw[if_neg (fun q=>q.elim k0 k10)]
 by_cases k1:c.kind=1
 rotate_left
 ·have d1:decide (c.kind=1)=false:=decide_eq_false k1
  simp only[S.z2m,zu_,S.z1z,S.z5i,S.z4n,V.one,hcl,d0,d10,d1]
  rw[if_neg k1]
  exact z0j7 A I hB w0 w1
 have d1:decide (c.kind=1)=true:=decide_eq_true k1
 rw[if_pos k1]
 by_cases n0:c.n<0
 ·have dn:decide (c.n<0)=true:=decide_eq_true n0
  simp only[S.z2m,zu_,S.z1z,S.z5i,S.z4n,V.one,hcl,d0,d10,d1,dn]
  exact Ev.some ⟨by rw[if_pos (.inl n0)],F0⟩
 have dn:decide (c.n<0)=false:=decide_eq_false n0
 by_cases na:k.a<c.n
 ·have da:decide (k.a<c.n)=true:=decide_eq_true na
  simp only[S.z2m,zu_,S.z1z,S.z5i,S.z4n,V.one,hcl,l1,d0,d10,d1,dn,da]
  exact Ev.some ⟨by rw[if_pos (.inr na)],F0⟩
 have da:decide (k.a<c.n)=false:=decide_eq_false na
 rw[if_neg (fun q=>q.elim n0 na)]
 by_cases rm:(r.held w:Int)<k.hd
 ·have dr:decide ((r.held w:Int)<k.hd)=true:=decide_eq_true rm
  simp only[S.z2m,zu_,S.z1z,S.z5i,S.z4n,V.one,hcl,l1,d0,d10,d1,dn,da,dr]
  exact Ev.some ⟨by rw[if_pos rm],F0⟩
 ·have dr:decide ((r.held w:Int)<k.hd)=false:=decide_eq_false rm
  simp only[S.z2m,zu_,S.z1z,S.z5i,S.z4n,V.one,hcl,l1,d0,d10,d1,dn,da,dr]
  exact Ev.some ⟨by rw[if_neg rm],F0⟩
theorem z0cf {k:Cfg}{h:H} (ok:h.ok) {s:StV}{r:RSt} (Z:StAt h.get s r) (I:RIn k r) (hB:r.Hs.length<=100000) {w:Int} (w0:0<=w) (w1:w<k.c) (c:CallR) :
  Ev (C 274 [s.v k,.int .i64 w,.agg c.cs] h) fun z=>z.1=.int .i64 (errR k r w c)/\Fr [] h z.2:=by
 refine z0e (af:=F.zy) (by kernel_rfl) rfl ?_
 have hv:s.v k=.agg [.int .i64 k.s,.int .i64 k.a,.int .i64 k.c,.int .i64 k.hd,.int .i64 k.g,.int .i64 k.st,s.f,s.h,s.w,s.c,s.g]:=rfl
 have hcs:V.agg c.cs=.agg [.int .i64 c.kind,.int .i64 c.n,.int .u64 c.h,.int .u64 c.x,.int .u64 c.y]:=rfl
 rw[hv,hcs,S.zy6]
 simp only[S.zy]
 have F0:Fr [] h ((h.new (.cells [.int .i64 k.s,.int .i64 k.a,.int .i64 k.c,.int .i64 k.hd,.int .i64 k.g,.int .i64 k.st,s.f,s.h,s.w,s.c,s.g] .rw)).new (.cells [.int .i64 c.kind,.int .i64 c.n,.int .u64 c.h,.int .u64 c.x,.int .u64 c.y] .rw)):=((Fr.refl ok).new _).new _
 have A0:ErrAt k s r c ((h.new (.cells [.int .i64 k.s,.int .i64 k.a,.int .i64 k.c,.int .i64 k.hd,.int .i64 k.g,.int .i64 k.st,s.f,s.h,s.w,s.c,s.g] .rw)).new (.cells [.int .i64 c.kind,.int .i64 c.n,.int .u64 c.h,.int .u64 c.x,.int .u64 c.y] .rw)) h.next (h.next+1) :=
  ⟨F0.ok,by rw[z0z (Nat.ne_of_lt (Nat.lt_succ_self _)),ze],ze _ _,Z.sub ((Sub.refl _).fr0 ok F0)⟩
 have hn1:(h.new (.cells [.int .i64 k.s,.int .i64 k.a,.int .i64 k.c,.int .i64 k.hd,.int .i64 k.g,.int .i64 k.st,s.f,s.h,s.w,s.c,s.g] .rw)).next=h.next+1:=rfl
 rw[hn1]
 generalize ((h.new (.cells [.int .i64 k.s,.int .i64 k.a,.int .i64 k.c,.int .i64 k.hd,.int .i64 k.g,.int .i64 k.st,s.f,s.h,s.w,s.c,s.g] .rw)).new (.cells [.int .i64 c.kind,.int .i64 c.n,.int .u64 c.h,.int .u64 c.x,.int .u64 c.y] .rw))=g0 at F0 A0 ⊢
 generalize h.next+1=q at A0 ⊢
 generalize h.next=p at A0 ⊢
 have lN:=A0.lN
 have hcl:=A0.cl
 obtain⟨⟨v1,g1⟩,e1,rfl,F1⟩:=zi1 (k:=k) A0.ok A0.Z.h hB w c.h
 dsimp only at F1
 have A1:=A0.fr F1
 have lN1:=A1.lN
 have l3:=A1.l3
 obtain⟨⟨v2,g2⟩,e2,rfl,F2⟩:=z0dp (k:=k) A1.ok A1.Z.h hB w
 dsimp only at F2
 have A2:=A1.fr F2
 have l3':=A2.l3
 simp only[Nat.reduceAdd,zu_,V.one,V.beq,hcl,lN,lN1,l3,l3',e1,e2]
 exact(z0jz A2 I hB w0 w1).mono fun z hz=>⟨hz.1,(F0.trans' F1).trans' (F2.trans' hz.2)⟩
structure RchAt (h1 g:H) (p mb:Nat) (s:StV) (r:RSt) (x:V) (l:List Int) (X:Nat->Bool):Prop where
 fr:Fr [] h1 g
 q:LQ g.get x l
 xn:∀b∈x.blk,h1.next<=b
 mn:h1.next<=mb
 mx:mb∉x.blk
 tr:TruAt g mb X r.F.length
 sn:Seen r.F.length l X
structure RchSt (k:Cfg) (h1:H) (p:Nat) (s:StV) (r:RSt):Prop where
 ok:h1.ok
 st:ldB (h1.get p) 6=some s.f
 pl:p<h1.next
 Z:RowsO .i64 h1.get s.f r.F
 In:RIn k r
 B:r.F.length<=100000
theorem RchSt.l6 {k:Cfg}{h1 g:H}{p:Nat}{s:StV}{r:RSt} (A:RchSt k h1 p s r) (F:Fr [] h1 g):ldB (g.get p) 6=some s.f:=by
 rw[F.same p A.pl (by simp)]; exact A.st
theorem z0ei {k:Cfg}{h1:H}{p mb:Nat}{s:StV}{r:RSt} (A:RchSt k h1 p s r) {x:V}{l:List Int}{X:Nat->Bool}{g:H} (Z:RchAt h1 g p mb s r x l X) {y:V}{f:List Int} (Y:RowO .i64 h1.get y f) (hf:∀v∈f,-1<=v/\v<r.F.length) (hfl:f.length<=100000) (kx:Nat) (hkx:kx<=100000) {c:Cap} :
  Ev ((W.loop (S.zdd W) (S.z1o (.ptr p 0) x (.sl mb 0 r.F.length c) (.int .i64 (kx:Nat)) y (.int .i64 0)) g).bind fun p7=>S.z9v W p7.1 p7.2.1 p7.2.2) fun z =>
   z.1=.normal/\∃x' X',z.2.1=S.z5z (.ptr p 0) x' (.sl mb 0 r.F.length c) (.int .i64 (kx+1:Nat))/\RchAt h1 z.2.2 p mb s r x' (r.nexts l f) X':=by
 refine z0f (α:=Nat × V × List Int × (Nat->Bool)) (fun a=>S.z1o (.ptr p 0) a.2.1 (.sl mb 0 r.F.length c) (.int .i64 (kx:Nat)) y (.int .i64 (a.1:Nat)))
  (fun a g=>a.1<=f.length/\RchAt h1 g p mb s r a.2.1 a.2.2.1 a.2.2.2/\r.nexts a.2.2.1 (f.drop a.1)=r.nexts l f) (fun a _=>f.length-a.1)
  (fun z=>z.1=.exit 2/\∃x' X',z.2.1=S.zdi (.ptr p 0) x' (.sl mb 0 r.F.length c) (.int .i64 (kx:Nat))/\RchAt h1 z.2.2 p mb s r x' (r.nexts l f) X') (0,x,l,X) rfl ⟨Nat.zero_le _,Z,rfl⟩ ?_ ?_
 rotate_left
 ·rintro⟨_,_,g'⟩ ⟨rfl,x',X',rfl,Z'⟩
  show Ev (S.z9v W (.exit 2) _ _) _
  rw[S.zpq]
  have wk:=znz (i:=kx) hkx
  simp only[S.zj2,wk]
  exact Ev.some ⟨rfl,x',X',rfl,Z'⟩
 rintro⟨i,x,l2,X⟩ g ⟨hi,Z,hn⟩
 dsimp only at hi Z hn ⊢
 rw[S.zts]
 have hyl:=Y.len
 by_cases hif:i<f.length
 rotate_left
 ·have d:decide ((i:Int)<(f.length:Int))=false:=decide_eq_false (by omega)
  simp only[S.z61,zd,hyl,d]
  rw[List.drop_of_length_le (by omega)] at hn
  have hn':l2=r.nexts l f:=hn
  exact Ev.some (.inr ⟨by simp,rfl,x,X,rfl,hn' ▸ Z⟩)
 have d:decide ((i:Int)<(f.length:Int))=true:=zll hif
 obtain⟨v,hv⟩:∃v,f[i]?=some v:=⟨_,List.getElem?_eq_getElem hif⟩
 obtain⟨b,o,ix,lv⟩:=(Y.sub ((Sub.refl _).fr0 A.ok Z.fr)).at hv
 have hdrop:f.drop i=v :: f.drop (i+1):=by
  rw[List.drop_eq_getElem_cons hif]
  rw[List.getElem?_eq_getElem hif] at hv
  rw[Option.some.inj hv]
 rw[hdrop,zti] at hn
 have wi:=znz (i:=i) (by omega)
 obtain⟨v0,v1⟩:=hf v (List.mem_of_getElem? hv)
 -- nothing new
 have skip:r.next l2 v=l2->(∃a':Nat × V × List Int × (Nat->Bool),AX.normal=.normal/\S.z1o (.ptr p 0) x (.sl mb 0 r.F.length c) (.int .i64 (kx:Nat)) y (.int .i64 (i+1:Nat))=S.z1o (.ptr p 0) a'.2.1 (.sl mb 0 r.F.length c) (.int .i64 (kx:Nat)) y (.int .i64 (a'.1:Nat))/\(a'.1<=f.length/\RchAt h1 g p mb s r a'.2.1 a'.2.2.1 a'.2.2.2/\r.nexts a'.2.2.1 (f.drop a'.1)=r.nexts l f)/\f.length-a'.1<f.length-i):=fun e=>by
  rw[e] at hn
  exact⟨(i+1,x,l2,X),rfl,rfl,⟨hif,Z,hn⟩,Nat.sub_lt_sub_left hif (Nat.lt_succ_self i)⟩
 by_cases h0:0<=v
 rotate_left
 ·have d0:decide (0<=v)=false:=decide_eq_false h0
  simp only[S.z61,zu_,S.zcy,S.z8i,S.zba,S.z8f,hyl,d,ix,lv,d0,wi]
  exact Ev.some (.inl (skip (Z.sn.skip v1 (.inl (by omega)))))
 have d0:decide (0<=v)=true:=decide_eq_true h0
 obtain⟨q,rfl⟩:∃q:Nat,v=(q:Int):=⟨v.toNat,by omega⟩
 have hq:q<r.F.length:=by omega
 have i2:z0 1 (.sl mb 0 r.F.length c) (.int .i64 (q:Int))=some (.ptr mb q):=zs hq
 have l2':=Z.tr.ld hq
 cases hX:X q with
 | true =>
  rw[hX] at l2'
  simp only[S.z61,zu_,S.zcy,S.z8i,S.zba,S.z8f,hyl,d,ix,lv,d0,i2,l2',wi]
  exact Ev.some (.inl (skip (Z.sn.skip v1 (.inr (by rw[Int.toNat_natCast]; exact hX)))))
 | false =>
  rw[hX] at l2'
  have hst:=Z.tr.stB hq true
  rw[z0b5] at hst
  have okg:=Z.fr.ok
  have F1:Fr [mb] g (g.put mb (some (.cells (z8h (bF (bupd X q) r.F.length)) .rw))):=(Fr.refl okg).put (.inl (by simp)) (okg.lt Z.tr) _
  have Q1:=Z.q.fr okg F1 (by intro b hb; simp only[List.mem_singleton]; rintro rfl; exact Z.mx hb)
  obtain⟨x',g',ea,F2,Q2,hx'⟩:=Q1.push F1.ok (Nat.le_trans Z.sn.len_le A.B) (q:Int)
  have hnext:(g.put mb (some (.cells (z8h (bF (bupd X q) r.F.length)) .rw))).next=g.next:=rfl
  rw[hnext] at ea hx'
  have hml:mb<g.next:=okg.lt Z.tr
  have T2:TruAt g' mb (bupd X q) r.F.length:=F2.get F1.ok (zq _ _ _) Z.mx
  have S2:=Z.sn.push hq hX
  have hnx:r.next l2 (q:Int)=l2 ++ [(q:Int)]:=Z.sn.take h0 v1 (by rw[Int.toNat_natCast]; exact hX)
  rw[hnx] at hn
  have hb:b≠mb:=by
   rintro rfl
   have hq3:ldB (g.get b) o=some (.int .i64 (q:Int)):=lv
   have hT:=Z.tr
   unfold TruAt at hT
   rw[hT,z08] at hq3
   unfold z8h at hq3
   rw[List.getElem?_map] at hq3
   cases hbb:(bF X r.F.length)[o]? with
   | none=>rw[hbb] at hq3; cases hq3
   | some bb=>rw[hbb] at hq3; cases hq3
  simp only[S.z61,zu_,S.zcy,S.z8i,S.zba,S.z8f,Nat.reduceLeDiff,V.cells,z07,fill,repl,opd,boxc,hyl,d,ix,lv,d0,i2,l2',hst,hb,ea,wi]
  refine Ev.some (.inl ⟨(i+1,x',l2 ++ [(q:Int)],bupd X q),rfl,rfl,⟨hif,⟨?_,Q2,?_,Z.mn,?_,T2,S2⟩,hn⟩,Nat.sub_lt_sub_left hif (Nat.lt_succ_self i)⟩)
  ·exact Z.fr.trans ((F1.mono (L':=mb :: x.blk) (by simp)).trans F2 (fun b hb=>.inl (List.mem_cons_of_mem _ hb))) (fun b hb=>by
    rcases List.mem_cons.mp hb with e | e
    ·exact .inr (e ▸ Z.mn)
    ·exact .inr (Z.xn b e))
  ·exact fun b hb=>Nat.le_trans Z.fr.le (hx' b hb)
  ·exact fun hb=>absurd (hx' mb hb) (Nat.not_le.mpr hml)
theorem Seen.next {r:RSt}{n:Nat}{l:List Int}{X:Nat->Bool} (S:Seen n l X) {v:Int} (h1:v<n):∃X',Seen n (r.next l v) X':=by
 by_cases h0:0<=v
 ·cases hX:X v.toNat with
  | true=>exact⟨X,by rw[S.skip h1 (.inr hX)]; exact S⟩
  | false =>
   have:=S.push (q:=v.toNat) (by omega) hX
   rw[show((v.toNat:Nat):Int)=v from by omega] at this
   exact⟨_,by rw[S.take h0 h1 hX]; exact this⟩
 ·exact⟨X,by rw[S.skip h1 (.inl (by omega))]; exact S⟩
theorem Seen.nexts {r:RSt}{n:Nat}:∀ {xs:List Int}{l:List Int}{X:Nat->Bool},Seen n l X->(∀v∈xs,v<n)->∃X',Seen n (r.nexts l xs) X'
 | [],_,X,S,_=>⟨X,S⟩
 | x :: xs,l,X,S,h=>by
  obtain⟨X',S'⟩:=S.next (r:=r) (h x List.mem_cons_self)
  rw[zti]
  exact Seen.nexts S' fun v hv=>h v (List.mem_cons_of_mem _ hv)
theorem RIn.fl_lt {k:Cfg}{r:RSt} (I:RIn k r) (n:Int):∀v∈r.fl n,-1<=v/\v<r.F.length:=by
 intro v hv
 unfold RSt.fl at hv
 cases hf:r.F[n.toNat]? with
 | none=>rw[hf] at hv; cases hv
 | some l=>rw[hf] at hv; exact I.f l (List.mem_of_getElem? hf) v hv
theorem Seen.reach {k:Cfg}{r:RSt} (I:RIn k r):∀(d i:Nat) {l:List Int}{X:Nat->Bool},Seen r.F.length l X->∃X',Seen r.F.length (r.reach d i l) X'
 | 0,_,_,X,S=>⟨X,S⟩
 | d+1,i,l,X,S=>by
  rw[RSt.reach]
  cases hl:l[i]? with
  | none=>exact⟨X,S⟩
  | some n =>
   obtain⟨X',S'⟩:=S.nexts (r:=r) (xs:=r.fl n) fun v hv=>(I.fl_lt n v hv).2
   exact Seen.reach I d (i+1) S'
theorem RIn.reached_all {k:Cfg}{r:RSt} (I:RIn k r) {n:Nat} (hn:n<r.F.length):∃X,Seen r.F.length (r.reached (n:Int)) X:=Seen.reach I _ _ (Seen.one hn)
theorem z09m {k:Cfg}{h:H} (ok:h.ok) {s:StV}{r:RSt} (Z:StAt h.get s r) (I:RIn k r) (hB:r.F.length<=100000) (hA:∀l∈r.F,l.length<=100000) {n:Nat} (hn:n<r.F.length) :
  Ev (C 278 [s.v k,.int .i64 (n:Int)] h) fun z=>Fr [] h z.2/\RowO .i64 z.2.get z.1 (r.reached (n:Int))/\(∀b∈z.1.blk,h.next<=b):=by
 refine z0e (af:=F.z0c) (by kernel_rfl) rfl ?_
 unfold StV.v
 rw[S.zwu]
 have F0:Fr [] h (h.new (.cells [.int .i64 k.s,.int .i64 k.a,.int .i64 k.c,.int .i64 k.hd,.int .i64 k.g,.int .i64 k.st,s.f,s.h,s.w,s.c,s.g] .rw)):=(Fr.refl ok).new _
 have hp:=ze h (.cells [.int .i64 k.s,.int .i64 k.a,.int .i64 k.c,.int .i64 k.hd,.int .i64 k.g,.int .i64 k.st,s.f,s.h,s.w,s.c,s.g] .rw)
 have hnx:(h.new (.cells [.int .i64 k.s,.int .i64 k.a,.int .i64 k.c,.int .i64 k.hd,.int .i64 k.g,.int .i64 k.st,s.f,s.h,s.w,s.c,s.g] .rw)).next=h.next+1:=rfl
 have Z':=Z.f.sub ((Sub.refl _).fr0 ok F0)
 have hone:=Z.f.one
 have hlen:=Z.f.len
 simp only[S.z0c]
 generalize (h.new (.cells [.int .i64 k.s,.int .i64 k.a,.int .i64 k.c,.int .i64 k.hd,.int .i64 k.g,.int .i64 k.st,s.f,s.h,s.w,s.c,s.g] .rw))=h1 at F0 hp Z' hnx ⊢
 have hld:ldB (h1.get h.next) 6=some s.f:=by rw[hp,z08]; simp only[List.getElem?_cons_succ,List.getElem?_cons_zero,hone]
 have hple:h.next<h1.next:=by rw[hnx]; exact Nat.lt_succ_self _
 have hnle:h.next<=h1.next:=Nat.le_of_lt hple
 generalize h.next=p at hld hp hple hnle hnx ⊢
 have A:RchSt k h1 p s r:=⟨F0.ok,hld,hple,Z',I,hB⟩
 have F1:Fr [] h1 (h1.new (.cells [.int .i64 (n:Int)] .rw)):=(Fr.refl F0.ok).new _
 have hl0:=ze h1 (.cells [.int .i64 (n:Int)] .rw)
 have hn1:(h1.new (.cells [.int .i64 (n:Int)] .rw)).next=h1.next+1:=rfl
 have hld1:=A.l6 F1
 generalize (h1.new (.cells [.int .i64 (n:Int)] .rw))=h2 at F1 hl0 hn1 hld1 ⊢
 have hmk:=z0gr (h:=h2) (n:=r.F.length) (by omega)
 rw[z0k7,hn1] at hmk
 have F2:Fr [] h2 (h2.new (.cells (z8h (bF (fun _=>false) r.F.length)) .rw)):=(Fr.refl F1.ok).new _
 have hm0:TruAt (h2.new (.cells (z8h (bF (fun _=>false) r.F.length)) .rw)) (h1.next+1) (fun _=>false) r.F.length:=by
  have:=ze h2 (.cells (z8h (bF (fun _=>false) r.F.length)) .rw)
  rw[hn1] at this; exact this
 have hl2:=F2.get F1.ok hl0 (by simp)
 generalize (h2.new (.cells (z8h (bF (fun _=>false) r.F.length)) .rw))=h3 at F2 hm0 hmk hl2 ⊢
 have i2:z0 1 (.sl (h1.next+1) 0 r.F.length (.ex r.F.length)) (.int .i64 (n:Int))=some (.ptr (h1.next+1) n):=zs hn
 have hst:=hm0.stB hn true
 rw[z0b5] at hst
 have ok3:=F2.ok
 have hml:=ok3.lt hm0
 have F3:Fr [h1.next+1] h3 (h3.put (h1.next+1) (some (.cells (z8h (bF (bupd (fun _=>false) n) r.F.length)) .rw))):=(Fr.refl ok3).put (.inl (by simp)) hml _
 simp only[V.cells,zu_,hld1,hlen,hmk,i2,hst]
 have F13:Fr [] h1 (h3.put (h1.next+1) (some (.cells (z8h (bF (bupd (fun _=>false) n) r.F.length)) .rw))):=(F1.trans' F2).trans F3 (fun b hb=>.inr (by simp only[List.mem_singleton] at hb; omega))
 have Q0:LQ (h3.put (h1.next+1) (some (.cells (z8h (bF (bupd (fun _=>false) n) r.F.length)) .rw))).get (.sl h1.next 0 1 (.ex 1)) [(n:Int)] :=
  ⟨h1.next,.ex 1,.rw,rfl,by rw[zf (by omega)]; exact hl2,.inl rfl⟩
 have R0:RchAt h1 (h3.put (h1.next+1) (some (.cells (z8h (bF (bupd (fun _=>false) n) r.F.length)) .rw))) p (h1.next+1) s r (.sl h1.next 0 1 (.ex 1)) [(n:Int)] (bupd (fun _=>false) n) :=
  ⟨F13,Q0,by simp[V.blk],Nat.le_succ _,by simp[V.blk],zq _ _ _,Seen.one hn⟩
 generalize h3.put (h1.next+1) (some (.cells (z8h (bF (bupd (fun _=>false) n) r.F.length)) .rw))=h4 at R0 F13 Q0 ⊢
 generalize h1.next+1=mb at R0 ⊢
 refine z0f (α:=Nat × V × List Int × (Nat->Bool)) (fun a=>S.z5z (.ptr p 0) a.2.1 (.sl mb 0 r.F.length (.ex r.F.length)) (.int .i64 (a.1:Nat)))
  (fun a g=>a.1<=a.2.2.1.length/\RchAt h1 g p mb s r a.2.1 a.2.2.1 a.2.2.2/\r.reach (r.F.length+1-a.1) a.1 a.2.2.1=r.reached (n:Int)) (fun a _=>r.F.length+1-a.1)
  (fun z=>z.1=.exit 0/\∃x',z.2.1=S.zdf x'/\Fr [] h1 z.2.2/\LQ z.2.2.get x' (r.reached (n:Int))/\∀b∈x'.blk,h1.next<=b) (0,.sl h1.next 0 1 (.ex 1),[(n:Int)],bupd (fun _=>false) n) rfl ⟨Nat.zero_le _,R0,rfl⟩ ?_ ?_
 rotate_left
 ·rintro⟨_,_,g'⟩ ⟨rfl,x',rfl,F',Q',hx'⟩
  show Ev (S.zfo W (.exit 0) _ _) _
  rw[S.zpp]
  exact Ev.some ⟨F0.trans' F',Q'.row,fun b hb=>Nat.le_trans hnle (hx' b hb)⟩
 rintro⟨i,x,l,X⟩ g ⟨hi,R,hrc⟩
 dsimp only at hi R hrc ⊢
 rw[S.zt6]
 have hxl:=R.q.row.len
 have hll:=R.sn.len_le
 by_cases hil:i<l.length
 rotate_left
 ·have d:decide ((i:Int)<(l.length:Int))=false:=decide_eq_false (by omega)
  rw[z0be _ _ _ _ (by omega)] at hrc
  simp only[S.zdh,zd,hxl,d]
  exact Ev.some (.inr ⟨by simp,rfl,x,rfl,R.fr,hrc ▸ R.q,R.xn⟩)
 have d:decide ((i:Int)<(l.length:Int))=true:=zll hil
 obtain⟨v,hv⟩:∃v,l[i]?=some v:=⟨_,List.getElem?_eq_getElem hil⟩
 obtain⟨b,o,ix,lv⟩:=R.q.row.at hv
 obtain⟨v0,v1⟩:=R.sn.all v (List.mem_of_getElem? hv)
 obtain⟨q,rfl⟩:∃q:Nat,v=(q:Int):=⟨v.toNat,by omega⟩
 have hF:r.F[q]?=some (r.fl (q:Int)):=by
  unfold RSt.fl
  rw[Int.toNat_natCast,List.getElem?_eq_getElem (by omega)]; rfl
 have hl6:=A.l6 R.fr
 obtain⟨b2,y,i3,ly,Y⟩:=Z'.at hF
 have ly':ldB (g.get b2) q=some y:=by
  cases hb2:h1.get b2 with
  | none=>rw[hb2] at ly; cases ly
  | some blk=>rw[R.fr.get A.ok hb2 (by simp),<-hb2]; exact ly
 simp only[S.zdh,zu_,hxl,d,ix,lv,hl6,i3,ly']
 refine(z0ei A R Y (I.fl_lt _) (hA _ (List.mem_of_getElem? hF)) i (by omega)).mono ?_
 rintro⟨_,_,g'⟩ ⟨rfl,x',X',rfl,R'⟩
 refine .inl ⟨(i+1,x',r.nexts l (r.fl (q:Int)),X'),rfl,rfl,⟨?_,R',?_⟩,by dsimp only; omega⟩
 ·have:l.length<=(r.nexts l (r.fl (q:Int))).length:=by
   have hmono:∀(xs l:List Int),l.length<=(r.nexts l xs).length:=by
    intro xs
    induction xs with
    | nil=>intro l; exact Nat.le_refl _
    | cons x xs ih =>
     intro l
     rw[zti]
     refine Nat.le_trans ?_ (ih _)
     unfold RSt.next
     split
     ·rw[List.length_append]; omega
     ·exact Nat.le_refl _
   exact hmono _ _
  dsimp only; omega
 ·rw[show r.F.length+1-i=(r.F.length+1-(i+1))+1 from by omega,z08l _ _ _ _ hv] at hrc
  exact hrc
def RowW (g:Nat->Option Blk) (v:V) (l:List Int) (lo hi:Nat):Prop:=∃b c k,v=.sl b 0 l.length c/\g b=some (.cells (l.map (.int .i64)) k)/\k≠.ro/\lo<=b/\b<hi/\(c=.op 1\/∃n,c=.ex n/\l.length<=n)
theorem RowW.row {g:Nat->Option Blk}{v:V}{l:List Int}{lo hi:Nat} (h:RowW g v l lo hi):RowO .i64 g v l:=by
 obtain⟨b,c,k,rfl,hb,_,_,_,hc⟩:=h
 exact .inr ⟨b,0,c,k,_,rfl,hb,by rw[List.drop_zero,List.take_of_length_le (by rw[List.length_map]; omega)],by rw[List.length_map]; omega,hc⟩
theorem RowW.blk {g:Nat->Option Blk}{v:V}{l:List Int}{lo hi:Nat} (h:RowW g v l lo hi):∀b∈v.blk,lo<=b/\b<hi:=by
 obtain⟨b,c,k,rfl,_,_,h1,h2,_⟩:=h
 intro a ha; simp only[V.blk,List.mem_singleton] at ha; subst ha; exact⟨h1,h2⟩
theorem RowW.mono {g g':Nat->Option Blk}{v:V}{l:List Int}{lo hi hi':Nat} (h:RowW g v l lo hi) (hg:∀b∈v.blk,g' b=g b) (hh:hi<=hi'):RowW g' v l lo hi':=by
 obtain⟨b,c,k,rfl,hb,hk,h1,h2,hc⟩:=h
 exact⟨b,c,k,rfl,by rw[hg b (by simp[V.blk])]; exact hb,hk,h1,by omega,hc⟩
def FW (g:Nat->Option Blk) (lo hi:Nat) (x:V) (F:List (List Int)):Prop :=
 (x=.nilsl/\F=[])\/∃(b:Nat) (vs:List V),x=.sl b 0 F.length (.op 1)/\g b=some (.cells vs (.gr 1))/\vs.length=F.length/\(lo<=b/\b<hi) /\
  (∀(i:Nat) (v:V) (l:List Int),vs[i]?=some v->F[i]?=some l->RowW g v l lo b)/\(∀(i j:Nat) (v w:V),i<j->vs[i]?=some v->vs[j]?=some w->∀a∈v.blk,∀c∈w.blk,a<c)
theorem FW.rows {g:Nat->Option Blk}{lo hi:Nat}{x:V}{F:List (List Int)} (h:FW g lo hi x F):RowsO .i64 g x F:=by
 obtain h1 | ⟨b,vs,e,hb,hl,_,hr,_⟩:=h
 ·exact .inl h1
 ·exact .inr ⟨b,_,_,vs,e,hb,hl,fun i v l h1 h2=>(hr i v l h1 h2).row⟩
theorem FW.congr {g g':Nat->Option Blk}{lo hi hi':Nat}{x:V}{F:List (List Int)} (h:FW g lo hi x F) (hg:∀b,lo<=b->b<hi->g' b=g b) (hh:hi<=hi'):FW g' lo hi' x F:=by
 obtain h1 | ⟨b,vs,e,hb,hl,hi1,hr,hm⟩:=h
 ·exact .inl h1
 ·exact .inr ⟨b,vs,e,by rw[hg b hi1.1 hi1.2]; exact hb,hl,⟨hi1.1,by omega⟩,fun i v l h1 h2=>(hr i v l h1 h2).mono (fun a ha=>by
   have:=(hr i v l h1 h2).blk a ha
   exact hg a this.1 (by omega)) (Nat.le_refl _),hm⟩
theorem FW.blk {g:Nat->Option Blk}{lo hi:Nat}{x:V}{F:List (List Int)} (h:FW g lo hi x F):∀b∈x.blk,lo<=b/\b<hi:=by
 obtain⟨rfl,_⟩ | ⟨b,vs,rfl,hb,hl,hi1,_⟩:=h
 ·simp[V.blk]
 ·intro a ha; simp only[V.blk,List.mem_singleton] at ha; subst ha; exact hi1
theorem FW.push {g:H} (ok:g.ok) {lo hi:Nat}{x:V}{F:List (List Int)} (W:FW g.get lo hi x F) {v:V}{l:List Int} (R:RowW g.get v l hi g.next) (hh:hi<=g.next) (hlo:lo<=hi) (hB:F.length<=100000) :
  ∃x' g',(g.new (.cells [v] .rw)).append 1 24 x (.sl g.next 0 1 (.ex 1))=some (x',g')/\Fr x.blk g g'/\FW g'.get lo g'.next x' (F ++ [l]):=by
 have hv1:v.one=true:=R.row.one
 have F1:Fr [] g (g.new (.cells [v] .rw)):=(Fr.refl ok).new _
 have hnew:(g.new (.cells [v] .rw)).slc 1 (.sl g.next 0 1 (.ex 1))=some [v]:=by
  rw[zhc (ze _ _) (by simp),List.drop_zero,List.take_of_length_le (by simp)]
 have hall:[v].all V.one=true:=by simp[hv1]
 -- what came behind
 have fin:∀(g1:H) (vs:List V),Fr x.blk g g1->vs.length=F.length->(∀(i:Nat) (v:V) (l:List Int),vs[i]?=some v->F[i]?=some l->RowW g1.get v l lo hi) ->
   (∀(i j:Nat) (v w:V),i<j->vs[i]?=some v->vs[j]?=some w->∀a∈v.blk,∀c∈w.blk,a<c)->RowW g1.get v l hi g.next->FW (g1.new (.cells (vs ++ [v]) (.gr 1))).get lo (g1.new (.cells (vs ++ [v]) (.gr 1))).next (.sl g1.next 0 (F.length+1) (.op 1)) (F ++ [l]):=by
  intro g1 vs Fg hl hr hm hv
  have hle:=Fg.le
  have hnn:(g1.new (.cells (vs ++ [v]) (.gr 1))).next=g1.next+1:=rfl
  refine .inr ⟨g1.next,vs ++ [v],by rw[List.length_append]; rfl,ze _ _,by rw[List.length_append,List.length_append,hl]; rfl,⟨by omega,by rw[hnn]; omega⟩,?_,?_⟩
  ·intro i u m h1 h2
   have hgl:=z0a h1
   rw[List.length_append,List.length_singleton] at hgl
   by_cases hi':i<vs.length
   ·rw[List.getElem?_append_left hi'] at h1
    rw[List.getElem?_append_left (by omega)] at h2
    have hq:=hr i u m h1 h2
    exact hq.mono (fun a ha=>z0z (by have:=(hq.blk a ha).2; omega)) (by omega)
   ·have hie:i=vs.length:=by omega
    subst hie
    rw[List.getElem?_append_right (Nat.le_refl _),Nat.sub_self] at h1
    rw[hl,List.getElem?_append_right (Nat.le_refl _),Nat.sub_self] at h2
    cases h1; cases h2
    obtain⟨b,c,k,e1,e2,e3,e4,e5,e6⟩:=hv
    exact⟨b,c,k,e1,by rw[z0z (by omega)]; exact e2,e3,by omega,by omega,e6⟩
  ·intro i j u w hij h1 h2 a ha c hc
   have hgl:=z0a h2
   rw[List.length_append,List.length_singleton] at hgl
   rw[List.getElem?_append_left (by omega)] at h1
   by_cases hj:j<vs.length
   ·rw[List.getElem?_append_left hj] at h2
    exact hm i j u w hij h1 h2 a ha c hc
   ·have hje:j=vs.length:=by omega
    subst hje
    rw[List.getElem?_append_right (Nat.le_refl _),Nat.sub_self] at h2
    cases h2
    obtain⟨m,hm'⟩:∃m,F[i]?=some m:=⟨_,List.getElem?_eq_getElem (by omega)⟩
    have q1:=((hr i u m h1 hm').blk a ha).2
    have q2:=(hv.blk c hc).1
    omega
 obtain⟨rfl,rfl⟩ | ⟨b,vs,rfl,hb,hl,hi1,hr,hm⟩:=W
 ·refine⟨_,_,append_nil (n:=1) rfl hnew (by omega) hall (by omega) (by decide) (by decide),F1.new _,?_⟩
  have:=fin (g.new (.cells [v] .rw)) [] F1 rfl (by simp) (by simp) (R.mono (fun a ha=>z0z (by have:=(R.blk a ha).2; omega)) (Nat.le_refl _))
  simpa using this
 ·have hbl:b<g.next:=ok.lt hb
  have hold:(g.new (.cells [v] .rw)).slc 1 (.sl b 0 F.length (.op 1))=some vs:=by
   rw[zhc (F1.get ok hb (by simp)) (by omega),List.drop_zero,List.take_of_length_le (by omega)]
  have hsz:(F.length+1+(F.length+1) / 2+1000) * 24<=281474976710656:=by omega
  have Fp:Fr [b] g ((g.new (.cells [v] .rw)).put b none):=(F1.mono (by simp)).put (.inl (by simp)) (F1.ok.lt (F1.get ok hb (by simp))) _
  refine⟨_,_,z00u (n:=1) rfl hnew hold (F1.get ok hb (by simp)) hall hsz (by decide) (by decide),Fp.new _,?_⟩
  refine fin ((g.new (.cells [v] .rw)).put b none) vs Fp hl ?_ hm ?_
  ·intro i u m h1 h2
   have hq:=hr i u m h1 h2
   exact hq.mono (fun a ha=>by
    have:=hq.blk a ha
    rw[zf (by omega),z0z (by omega)]) (by omega)
  ·refine R.mono (fun a ha => ?_) (Nat.le_refl _)
   have:=R.blk a ha
   rw[zf (by omega),z0z (by omega)]
theorem z07d {h:H} (ok:h.ok) {e b n:Nat}{x:V}{new:List V} (hx:lenSl x=some n) (hn:h.slc e x=some new) (hl:new.length=n * e) (h1:new.all V.one=true) (he:0<e) (hb:0<b/\b<=1000) (hs:n<=1000000) :
  ∃x' h',h.append e b .nilsl x=some (x',h')/\Grown h'.get x' e new/\Fr [] h h'/\∀a∈x'.blk,h.next<=a/\a<h'.next:=by
 have h2:(n+n / 2+1000) * b<=281474976710656:=by
  have:(n+n / 2+1000) * b<=2000000 * 1000:=Nat.mul_le_mul (by omega) hb.2
  omega
 by_cases h0:n=0
 ·subst h0
  have hn0:new=[]:=List.eq_nil_of_length_eq_zero (by omega)
  subst hn0
  refine⟨.nilsl,h,?_,Grown.nil _ _,.refl ok,by simp[V.blk]⟩
  have h2':decide ((0+0+(0+0) / 2+1000) * b<=281474976710656)=true:=decide_eq_true (by omega)
  have he':decide (0<e)=true:=decide_eq_true he
  have hb':decide (0<b)=true:=decide_eq_true hb.1
  have hs0:h.slc e .nilsl=some []:=rfl
  unfold H.append
  simp only[hx,hn,zd7,hs0,h2',he',hb',List.all_nil,Bool.and_self]
 ·refine⟨_,_,append_nil hx hn h0 h1 h2 he hb.1,.inr ⟨_,n,rfl,hl,ze _ _⟩,(Fr.refl ok).new _,?_⟩
  intro a ha
  simp only[V.blk,List.mem_singleton] at ha
  subst ha
  exact⟨Nat.le_refl _,Nat.lt_succ_self _⟩
theorem z0mc {g:H} (ok:g.ok) {y:V}{l:List Int} (Y:RowO .i64 g.get y l) (hl:l.length<=100000) :
  ∃v g',(g.new (.cells [] .rw)).append 1 8 (.sl g.next 0 0 (.ex 0)) y=some (v,g')/\Fr [] g g'/\RowW g'.get v l g.next g'.next:=by
 have F1:Fr [] g (g.new (.cells [] .rw)):=(Fr.refl ok).new _
 have Y1:=(Y.sub ((Sub.refl _).fr0 ok F1))
 have hbk:=ze g (.cells [] .rw)
 have hlen:=Y1.len
 by_cases h0:l.length=0
 ·have hl0:l=[]:=List.eq_nil_of_length_eq_zero h0
  subst hl0
  have hs:=Y1.slc
  have hold:(g.new (.cells [] .rw)).slc 1 (.sl g.next 0 0 (.ex 0))=some []:=z0e8 hbk (by simp)
  have hstc:(g.new (.cells [] .rw)).stc g.next 0 []=some ((g.new (.cells [] .rw)).put g.next (some (.cells [] .rw))):=by
   rw[z079 hbk (by simp) rfl (by simp)]; rfl
  refine⟨.sl g.next 0 0 (.ex 0),(g.new (.cells [] .rw)).put g.next (some (.cells [] .rw)),?_,F1.put (.inr (Nat.le_refl _)) (Nat.lt_succ_self _) _,⟨g.next,_,.rw,rfl,zq _ _ _,by simp,Nat.le_refl _,Nat.lt_succ_self _,.inr ⟨0,rfl,Nat.le_refl _⟩⟩⟩
  have hs':(g.new (.cells [] .rw)).slc 1 y=some []:=hs
  have hlen':lenSl y=some 0:=hlen
  have c1:decide ((0+0+(0+0) / 2+1000) * 8<=281474976710656)=true:=rfl
  have c2:decide (0<1)=true:=rfl
  have c3:decide (0<8)=true:=rfl
  have c4:decide (0+0<=0)=true:=rfl
  have c5:g.next=(0+0 * 1)+g.next:=by omega
  unfold H.append
  simp only[hlen',hs',z5p,hold,c1,c2,c3,c4,List.all_nil,Bool.and_self,Nat.zero_mul,Nat.add_zero,hstc]
 ·have hp:0<l.length:=Nat.pos_of_ne_zero h0
  have ha:=z0my (e:=1) (b:=8) (bb:=g.next) (o:=0) (c:=0) hlen Y1.slc (z0e8 hbk (by simp)) (z030 .i64 l) (by omega) (by omega) (by omega) hp
  refine⟨_,_,ha,F1.new _,⟨_,_,_,rfl,ze _ _,by simp,Nat.le_succ _,Nat.lt_succ_self _,.inl rfl⟩⟩
structure TSt (k:Cfg) (g0 g:Nat->Option Blk) (n0 n1 n2 n3 n4 n5:Nat) (t:StV) (r:RSt):Prop where
 le:n0<=n1/\n1<=n2/\n2<=n3/\n3<=n4/\n4<=n5
 f:FW g n0 n1 t.f r.F
 h:Grown g t.h 3 (r.Hs.map HoldR.cs).flatten
 hb:∀a∈t.h.blk,n1<=a/\a<n2
 w:Grown g t.w 1 (r.Wk.map (.int .u64))
 wb:∀a∈t.w.blk,n2<=a/\a<n3
 c:∃vs,Grown g t.c 1 vs/\vs.length=r.Cm.length/\∀(i:Nat) (v:V) (l:List Int),vs[i]?=some v->r.Cm[i]?=some l->RowO .i64 g0 v l
 cb:∀a∈t.c.blk,n3<=a/\a<n4
 g:Grown g t.g 1 (r.Gv.map (.int .u64))
 gb:∀a∈t.g.blk,n4<=a/\a<n5
theorem Grown.rowH {g:Nat->Option Blk}{x:V}{l:List HoldR} (G:Grown g x 3 (l.map HoldR.cs).flatten):RowHo g x l:=by
 have hn:(l.map HoldR.cs).flatten.length=l.length * 3:=by rw[zc7 (z03u l),List.length_map]
 obtain⟨rfl,h0⟩ | ⟨b,n,rfl,h1,hb⟩:=G
 ·rw[h0] at hn
  exact .inl ⟨rfl,List.eq_nil_of_length_eq_zero (by simp only[List.length_nil] at hn; omega)⟩
 ·have:n=l.length:=by omega
  subst this
  exact .inr ⟨b,_,_,rfl,hb⟩
theorem Grown.rowO {kd:Go.IntKind}{g:Nat->Option Blk}{x:V}{l:List Int} (G:Grown g x 1 (l.map (.int kd))):RowO kd g x l:=by
 obtain⟨rfl,h0⟩ | ⟨b,n,rfl,h1,hb⟩:=G
 ·exact .inl ⟨rfl,List.map_eq_nil_iff.mp h0⟩
 ·rw[List.length_map] at h1
  have:n=l.length:=by omega
  subst this
  exact .inr ⟨b,0,_,_,_,rfl,hb,by rw[List.drop_zero,List.take_of_length_le (by rw[List.length_map]; omega)],by rw[List.length_map]; omega,.inl rfl⟩
theorem Grown.rowsO {kd:Go.IntKind}{g:Nat->Option Blk}{x:V}{vs:List V}{L:List (List Int)} (G:Grown g x 1 vs) (hl:vs.length=L.length) (hr:∀(i:Nat) (v:V) (l:List Int),vs[i]?=some v->L[i]?=some l->RowO kd g v l):RowsO kd g x L:=by
 obtain⟨rfl,rfl⟩ | ⟨b,n,rfl,h1,hb⟩:=G
 ·exact .inl ⟨rfl,List.eq_nil_of_length_eq_zero hl.symm⟩
 ·have:n=L.length:=by omega
  subst this
  exact .inr ⟨b,_,_,vs,rfl,hb,hl,hr⟩
theorem TSt.at {k:Cfg}{g0 g:Nat->Option Blk}{n0 n1 n2 n3 n4 n5:Nat}{t:StV}{r:RSt} (T:TSt k g0 g n0 n1 n2 n3 n4 n5 t r) (sb:Sub g0 g):StAt g t r:=by
 obtain⟨vs,hc,hl,hr⟩:=T.c
 exact⟨T.f.rows,T.h.rowH,T.w.rowO,hc.rowsO hl (fun i v l h1 h2=>(hr i v l h1 h2).sub sb),T.g.rowO⟩
theorem Grown.congr {g g':Nat->Option Blk}{x:V}{e:Nat}{l:List V} (G:Grown g x e l) (h:∀b∈x.blk,g' b=g b):Grown g' x e l:=by
 obtain h1 | ⟨b,n,rfl,hl,hb⟩:=G
 ·exact .inl h1
 ·exact .inr ⟨b,n,rfl,hl,by rw[h b (by simp[V.blk])]; exact hb⟩
theorem RowO.congr {kd:Go.IntKind}{g g':Nat->Option Blk}{x:V}{l:List Int} (R:RowO kd g x l) (h:∀b∈x.blk,g' b=g b):RowO kd g' x l:=by
 obtain h1 | ⟨b,o,c,k,cs,rfl,hb,r⟩:=R
 ·exact .inl h1
 ·exact .inr ⟨b,o,c,k,cs,rfl,by rw[h b (by simp[V.blk])]; exact hb,r⟩
theorem RowsO.slc {kd:Go.IntKind}{g:H}{x:V}{L:List (List Int)} (h:RowsO kd g.get x L):∃vs,g.slc 1 x=some vs/\vs.length=L.length/\vs.all V.one=true/\∀(i:Nat) (v:V) (l:List Int),vs[i]?=some v->L[i]?=some l->RowO kd g.get v l:=by
 obtain⟨rfl,rfl⟩ | ⟨b,c,k,vs,rfl,hb,hl,hr⟩:=h
 ·exact⟨[],rfl,rfl,rfl,by simp⟩
 ·refine⟨vs,by rw[zhc hb (by omega),List.drop_zero,List.take_of_length_le (by omega)],hl,?_,hr⟩
  rw[List.all_eq_true]
  intro v hv
  obtain⟨i,hi⟩:=List.mem_iff_getElem?.mp hv
  have:=z0a hi
  obtain⟨l,hl'⟩:∃l,L[i]?=some l:=⟨_,List.getElem?_eq_getElem (by omega)⟩
  exact(hr i v l hi hl').one
theorem RowO.lt {kd:Go.IntKind}{g:H}{x:V}{l:List Int} (R:RowO kd g.get x l) (ok:g.ok):∀b∈x.blk,b<g.next:=by
 obtain⟨rfl,_⟩ | ⟨b,o,c,k,cs,rfl,hb,_⟩:=R
 ·simp[V.blk]
 ·intro a ha; simp only[V.blk,List.mem_singleton] at ha; subst ha; exact ok.lt hb
def zw_:=And.intro @z1v <| And.intro @zd <| And.intro @Option.map_some.{0,0} <| And.intro @zk <| And.intro @z92 <| And.intro @z08 <| And.intro @z6q <| And.intro @List.getElem?_cons_zero.{0} <| And.intro @List.getElem?_cons_succ.{0} <| And.intro @Nat.zero_add <| And.intro @ze6 <| And.intro @List.length_cons.{0} <| And.intro @List.length_nil.{0} <| And.intro @Nat.beq_refl <| And.intro @List.all_cons.{0} <| And.intro @List.all_nil.{0} <| And.intro @Bool.and_true <| And.intro @Bool.not_true <| And.intro @Bool.or_self <| And.intro @Bool.and_self <| And.intro @decide_true <| And.intro @decide_false <| And.intro @List.take_succ_cons.{0} <| And.intro @List.take_zero.{0} <| And.intro @List.drop_succ_cons.{0} <| And.intro @List.drop_zero.{0} <| And.intro @List.cons_append.{0} <| And.intro @List.nil_append.{0} <| And.intro @z34 <| And.intro @get_put' <| And.intro @zda <| And.intro @if_true.{1} <| And.intro @if_false.{1} <| And.intro @z4c <| And.intro @z97 <| And.intro @za5 <| And.intro @H.next_put <| And.intro @Nat.add_zero <| And.intro @zd6 <| And.intro @zm <| And.intro @z02 <| And.intro @z90 <| And.intro @zin <| And.intro @Bool.not_false <| And.intro @zhb <| And.intro @z5p <| And.intro @zlo <| And.intro @zg9 <| And.intro @zlz <| And.intro @z9i <| And.intro @zd5 <| And.intro @Bool.true_and <| And.intro @Bool.false_and <| And.intro @z0x <| And.intro @Bool.and_false <| And.intro @Bool.or_false <| And.intro @Bool.false_or <| And.intro @ze4 <| And.intro @BEq.rfl.{0} <| @H.next_new
structure Slv (x:V):Prop where
 one:x.one=true
 cells:x.cells=[x]
 box:boxc x=some [x]
 beq:V.beq x x=true
theorem Slv.of {x:V} (h:x=.nilsl\/∃b o n c,x=.sl b o n c):Slv x:=by
 rcases h with rfl | ⟨b,o,n,c,rfl⟩
 ·exact⟨rfl,rfl,rfl,rfl⟩
 ·exact⟨rfl,rfl,rfl,z0dy b o n c⟩
theorem RowO.slv {kd:Go.IntKind}{g:Nat->Option Blk}{x:V}{l:List Int} (h:RowO kd g x l):Slv x:=by
 obtain⟨rfl,_⟩ | ⟨b,o,c,k,cs,rfl,_⟩:=h
 ·exact .of (.inl rfl)
 ·exact .of (.inr ⟨_,_,_,_,rfl⟩)
theorem RowsO.slv {kd:Go.IntKind}{g:Nat->Option Blk}{x:V}{L:List (List Int)} (h:RowsO kd g x L):Slv x:=by
 obtain⟨rfl,_⟩ | ⟨b,c,k,vs,rfl,_⟩:=h
 ·exact .of (.inl rfl)
 ·exact .of (.inr ⟨_,_,_,_,rfl⟩)
theorem RowHo.slv {g:Nat->Option Blk}{x:V}{l:List HoldR} (h:RowHo g x l):Slv x:=by
 obtain⟨rfl,_⟩ | ⟨b,c,k,rfl,_⟩:=h
 ·exact .of (.inl rfl)
 ·exact .of (.inr ⟨_,_,_,_,rfl⟩)
theorem Grown.slv {g:Nat->Option Blk}{x:V}{e:Nat}{l:List V} (h:Grown g x e l):Slv x:=by
 obtain⟨rfl,_⟩ | ⟨b,n,rfl,_⟩:=h
 ·exact .of (.inl rfl)
 ·exact .of (.inr ⟨_,_,_,_,rfl⟩)
structure CpAt (k:Cfg) (s:StV) (r:RSt) (h5 g:H) (p p3:Nat) (z:V) (i:Nat):Prop where
 fr:Fr [p3] h5 g
 own:g.get p3=some (.cells [.int .i64 k.s,.int .i64 k.a,.int .i64 k.c,.int .i64 k.hd,.int .i64 k.g,.int .i64 k.st,z,.nilsl,.nilsl,.nilsl,.nilsl] .rw)
 w:FW g.get h5.next g.next z (r.F.take i)
structure CpSt (g0:Nat->Option Blk) (k:Cfg) (s:StV) (r:RSt) (h5:H) (p p2 p3:Nat):Prop where
 ok:h5.ok
 st:h5.get p=some (.cells [.int .i64 k.s,.int .i64 k.a,.int .i64 k.c,.int .i64 k.hd,.int .i64 k.g,.int .i64 k.st,s.f,s.h,s.w,s.c,s.g] .rw)
 ne:p≠p3/\p2≠p3/\p≠p2
 l2:h5.get p2=some (.cells [.int .i64 0,.int .i64 0,.int .i64 0,.int .i64 0,.int .i64 0,.int .i64 0,.nilsl,.nilsl,.nilsl,.nilsl,.nilsl] .rw)
 l3:p3<h5.next
 Z:StAt g0 s r
 sb:Sub g0 h5.get
 no:g0 p3=none/\g0 p2=none
 B:r.F.length<=100000/\(∀l∈r.F,l.length<=100000)/\r.Hs.length<=100000/\r.Wk.length<=100000/\r.Cm.length<=100000/\r.Gv.length<=100000
theorem CpSt.sb' {g0:Nat->Option Blk}{k:Cfg}{s:StV}{r:RSt}{h5 g:H}{p p2 p3:Nat} (A:CpSt g0 k s r h5 p p2 p3) (F:Fr [p3] h5 g):Sub g0 g.get :=
 A.sb.fr A.ok F (by simpa using A.no.1)
theorem CpSt.sub {g0:Nat->Option Blk}{k:Cfg}{s:StV}{r:RSt}{h5 g:H}{p p2 p3:Nat} (A:CpSt g0 k s r h5 p p2 p3) (F:Fr [p3] h5 g):StAt g.get s r:=A.Z.sub (A.sb' F)
theorem z0f5 {g0:Nat->Option Blk}{k:Cfg}{s:StV}{r:RSt}{h5 g:H}{p p2 p3:Nat} (A:CpSt g0 k s r h5 p p2 p3) {z:V}{i:Nat} (P:CpAt k s r h5 g p p3 z i) (hi:i<r.F.length) :
  Ev (S.z93 W (.ptr p 0) (.ptr p2 0) (.ptr p3 0) (i:Nat) g) fun q=>q.1=.normal/\q.2.1=S.z66 (.ptr p 0) (.ptr p2 0) (.ptr p3 0) (.int .i64 (i+1:Nat))/\∃z',CpAt k s r h5 q.2.2 p p3 z' (i+1):=by
 have Zs:=A.sub P.fr
 have hlen:=Zs.f.len
 have hst:=P.fr.get A.ok A.st (by simp only[List.mem_singleton]; exact A.ne.1)
 have hown:=P.own
 have of:=Zs.f.slv.one
 have oz:=P.w.rows.slv
 obtain⟨l,hl⟩:∃l,r.F[i]?=some l:=⟨_,List.getElem?_eq_getElem hi⟩
 have d:decide ((i:Int)<(r.F.length:Int))=true:=zll hi
 obtain⟨b,y,ix,ly,Y⟩:=Zs.f.at hl
 obtain⟨v,g1,e1,F1,R1⟩:=z0mc P.fr.ok Y (A.B.2.1 l (List.mem_of_getElem? hl))
 have hown1:=F1.get P.fr.ok hown (by simp)
 have bv:=R1.row.slv
 have W1:FW g1.get h5.next g.next z (r.F.take i):=P.w.congr (fun a h1 h2=>F1.same a h2 (by simp)) (Nat.le_refl _)
 obtain⟨x',g2,e2,F2,W2⟩:=W1.push F1.ok R1 F1.le P.fr.le (by rw[List.length_take]; have:=A.B.1; omega)
 have hp3:p3∉z.blk:=fun q=>by have:=(P.w.blk p3 q).1; have:=A.l3; omega
 have hown2:=F2.get F1.ok hown1 hp3
 have bx:=W2.rows.slv
 have wi:=znz (i:=i) (by have:=A.B.1; omega)
 have o1:=oz.one
 have o2:=oz.beq
 have o3:=bv.box
 have o4:=bx.one
 have o5:=bx.cells
 simp only[S.z93,zw_,Nat.reduceAdd,Nat.reduceLeDiff,z07,reduceCtorEq,fill,repl,opd,hst,hlen,d,hown,o1,of,ix,ly,e1,hown1,o2,o3,e2,hown2,o4,o5,wi]
 have ok2:=F2.ok
 have hl3:p3<g2.next:=ok2.lt hown2
 refine Ev.some ⟨rfl,rfl,x',?_,zq _ _ _,?_⟩
 ·refine Fr.put ?_ (.inl (by simp)) hl3 _
  refine(P.fr.trans F1 (by simp)).trans F2 (fun c hc=>.inr ?_)
  exact(P.w.blk c hc).1
 ·have:=W2.congr (g':=(g2.put p3 (some (.cells [.int .i64 k.s,.int .i64 k.a,.int .i64 k.c,.int .i64 k.hd,.int .i64 k.g,.int .i64 k.st,x',.nilsl,.nilsl,.nilsl,.nilsl] .rw))).get) (fun a h1 h2=>zf (by have:=A.l3; omega)) (Nat.le_refl _)
  rw[List.take_succ,hl]
  exact this
theorem z0dr (kd:Go.IntKind) (l:List Int):(l.map (V.int kd)).length=l.length * 1:=by rw[List.length_map,Nat.mul_one]
theorem z0i6 {g0:Nat->Option Blk}{k:Cfg}{s:StV}{r:RSt}{h5 g:H}{p p2 p3:Nat} (A:CpSt g0 k s r h5 p p2 p3) {z:V}{i:Nat} (P:CpAt k s r h5 g p p3 z i) (hi:i=r.F.length) :
  Ev (S.zdb W (.ptr p 0) (.ptr p2 0) (.ptr p3 0) g) fun q=>∃t n1 n2 n3 n4 n5,q.1=t.v k/\Fr [p2,p3] h5 q.2/\TSt k g0 q.2.get h5.next n1 n2 n3 n4 n5 t r/\n5<=q.2.next:=by
 subst hi
 have B:=A.B
 have hne:=A.ne
 have hpne:=A.ne.1
 have hpne2:=A.ne.2.2
 have hst:=P.fr.get A.ok A.st (by simp only[List.mem_singleton]; exact A.ne.1)
 have hown:=P.own
 have Zs:=A.sub P.fr
 have oz:=P.w.rows.slv
 have o1:=Zs.f.slv.one
 have o2:=Zs.h.slv.one
 have o3:=Zs.w.slv.one
 have o4:=Zs.c.slv.one
 have o5:=Zs.g.slv.one
 have W0:=P.w
 rw[List.take_length] at W0
 have ok0:=P.fr.ok
 -- what is held
 obtain⟨xh,g1,e1,G1,F1,b1⟩:=z07d ok0 (b:=24) Zs.h.len Zs.h.slc (by rw[zc7 (z03u _),List.length_map]) (z0ij _) (by decide) ⟨by decide,by decide⟩ (by omega)
 have sh:=G1.slv
 have hown1:=F1.get ok0 hown (by simp)
 have hl3:=F1.ok.lt hown1
 have Fp1:Fr [p3] g1 (g1.put p3 (some (.cells [.int .i64 k.s,.int .i64 k.a,.int .i64 k.c,.int .i64 k.hd,.int .i64 k.g,.int .i64 k.st,z,xh,.nilsl,.nilsl,.nilsl] .rw))):=(Fr.refl F1.ok).put (.inl (by simp)) hl3 _
 have hown1':=zq g1 p3 (some (.cells [.int .i64 k.s,.int .i64 k.a,.int .i64 k.c,.int .i64 k.hd,.int .i64 k.g,.int .i64 k.st,z,xh,.nilsl,.nilsl,.nilsl] .rw))
 have hg1:(g1.put p3 (some (.cells [.int .i64 k.s,.int .i64 k.a,.int .i64 k.c,.int .i64 k.hd,.int .i64 k.g,.int .i64 k.st,z,xh,.nilsl,.nilsl,.nilsl] .rw))).next=g1.next:=rfl
 rw[S.zdb]
 have hst1:=F1.get ok0 hst (by simp)
 have c1:=sh.one
 have c2:=sh.cells
 have z1:=oz.one
 simp only[Nat.reduceAdd,zw_,Nat.reduceLeDiff,z07,reduceCtorEq,finV,z3w,z6u,z48,hown,hst,o2,e1,hown1,c1,c2,hpne,hst1,o3]
 -- the walks
 generalize hgg:(g1.put p3 (some (.cells [.int .i64 k.s,.int .i64 k.a,.int .i64 k.c,.int .i64 k.hd,.int .i64 k.g,.int .i64 k.st,z,xh,.nilsl,.nilsl,.nilsl] .rw)))=g2 at Fp1 hown1' hg1 ⊢
 have hst2:=Fp1.get F1.ok hst1 (by simp only[List.mem_singleton]; exact hne.1)
 have F02:Fr [p3] h5 g2:=(P.fr.trans F1 (by simp)).trans Fp1 (by simp)
 have Zs2:=A.sub F02
 obtain⟨xw,g3,e3,G3,F3,b3⟩:=z07d Fp1.ok (b:=8) Zs2.w.len Zs2.w.slc (z0dr _ _) (z030 _ _) (by decide) ⟨by decide,by decide⟩ (by omega)
 have sw:=G3.slv
 have hown3:=F3.get Fp1.ok hown1' (by simp)
 have hst3:=F3.get Fp1.ok hst2 (by simp)
 have hl33:=F3.ok.lt hown3
 have Fp3:Fr [p3] g3 (g3.put p3 (some (.cells [.int .i64 k.s,.int .i64 k.a,.int .i64 k.c,.int .i64 k.hd,.int .i64 k.g,.int .i64 k.st,z,xh,xw,.nilsl,.nilsl] .rw))):=(Fr.refl F3.ok).put (.inl (by simp)) hl33 _
 have hown3':=zq g3 p3 (some (.cells [.int .i64 k.s,.int .i64 k.a,.int .i64 k.c,.int .i64 k.hd,.int .i64 k.g,.int .i64 k.st,z,xh,xw,.nilsl,.nilsl] .rw))
 have hg3:(g3.put p3 (some (.cells [.int .i64 k.s,.int .i64 k.a,.int .i64 k.c,.int .i64 k.hd,.int .i64 k.g,.int .i64 k.st,z,xh,xw,.nilsl,.nilsl] .rw))).next=g3.next:=rfl
 have c3:=sw.one
 have c4:=sw.cells
 simp only[Nat.reduceAdd,zw_,Nat.reduceLeDiff,z07,reduceCtorEq,e3,hown3,c3,c4,hpne,hst3,o4]
 generalize (g3.put p3 (some (.cells [.int .i64 k.s,.int .i64 k.a,.int .i64 k.c,.int .i64 k.hd,.int .i64 k.g,.int .i64 k.st,z,xh,xw,.nilsl,.nilsl] .rw)))=g4 at Fp3 hown3' hg3 ⊢
 have hst4:=Fp3.get F3.ok hst3 (by simp only[List.mem_singleton]; exact hne.1)
 have F04:Fr [p3] h5 g4:=(F02.trans F3 (by simp)).trans Fp3 (by simp)
 have Zs4:=A.sub F04
 -- what is to come
 obtain⟨vs,hvs,hvl,hv1,hvr⟩:=Zs4.c.slc
 obtain⟨xc,g5,e5,G5,F5,b5⟩:=z07d Fp3.ok (b:=24) Zs4.c.len hvs (by rw[hvl,Nat.mul_one]) hv1 (by decide) ⟨by decide,by decide⟩ (by omega)
 have sc:=G5.slv
 have hown5:=F5.get Fp3.ok hown3' (by simp)
 have hst5:=F5.get Fp3.ok hst4 (by simp)
 have hl35:=F5.ok.lt hown5
 have Fp5:Fr [p3] g5 (g5.put p3 (some (.cells [.int .i64 k.s,.int .i64 k.a,.int .i64 k.c,.int .i64 k.hd,.int .i64 k.g,.int .i64 k.st,z,xh,xw,xc,.nilsl] .rw))):=(Fr.refl F5.ok).put (.inl (by simp)) hl35 _
 have hown5':=zq g5 p3 (some (.cells [.int .i64 k.s,.int .i64 k.a,.int .i64 k.c,.int .i64 k.hd,.int .i64 k.g,.int .i64 k.st,z,xh,xw,xc,.nilsl] .rw))
 have hg5:(g5.put p3 (some (.cells [.int .i64 k.s,.int .i64 k.a,.int .i64 k.c,.int .i64 k.hd,.int .i64 k.g,.int .i64 k.st,z,xh,xw,xc,.nilsl] .rw))).next=g5.next:=rfl
 have c5:=sc.one
 have c6:=sc.cells
 simp only[Nat.reduceAdd,zw_,Nat.reduceLeDiff,z07,reduceCtorEq,e5,hown5,c5,c6,hpne,hst5,o5]
 generalize (g5.put p3 (some (.cells [.int .i64 k.s,.int .i64 k.a,.int .i64 k.c,.int .i64 k.hd,.int .i64 k.g,.int .i64 k.st,z,xh,xw,xc,.nilsl] .rw)))=g6 at Fp5 hown5' hg5 ⊢
 have hst6:=Fp5.get F5.ok hst5 (by simp only[List.mem_singleton]; exact hne.1)
 have F06:Fr [p3] h5 g6:=(F04.trans F5 (by simp)).trans Fp5 (by simp)
 have Zs6:=A.sub F06
 -- what was given
 obtain⟨xg,g7,e7,G7,F7,b7⟩:=z07d Fp5.ok (b:=8) Zs6.g.len Zs6.g.slc (z0dr _ _) (z030 _ _) (by decide) ⟨by decide,by decide⟩ (by omega)
 have sg:=G7.slv
 have hown7:=F7.get Fp5.ok hown5' (by simp)
 have hl37:=F7.ok.lt hown7
 have Fp7:Fr [p3] g7 (g7.put p3 (some (.cells [.int .i64 k.s,.int .i64 k.a,.int .i64 k.c,.int .i64 k.hd,.int .i64 k.g,.int .i64 k.st,z,xh,xw,xc,xg] .rw))):=(Fr.refl F7.ok).put (.inl (by simp)) hl37 _
 have hown7':=zq g7 p3 (some (.cells [.int .i64 k.s,.int .i64 k.a,.int .i64 k.c,.int .i64 k.hd,.int .i64 k.g,.int .i64 k.st,z,xh,xw,xc,xg] .rw))
 have c7:=sg.one
 have c8:=sg.cells
 have F07:Fr [p3] h5 (g7.put p3 (some (.cells [.int .i64 k.s,.int .i64 k.a,.int .i64 k.c,.int .i64 k.hd,.int .i64 k.g,.int .i64 k.st,z,xh,xw,xc,xg] .rw))):=(F06.trans F7 (by simp)).trans Fp7 (by simp)
 have hp2:=F07.get A.ok A.l2 (by simp only[List.mem_singleton]; exact hne.2.1)
 have hg7:(g7.put p3 (some (.cells [.int .i64 k.s,.int .i64 k.a,.int .i64 k.c,.int .i64 k.hd,.int .i64 k.g,.int .i64 k.st,z,xh,xw,xc,xg] .rw))).next=g7.next:=rfl
 have hp27:=(F06.trans F7 (by simp)).get A.ok A.l2 (by simp only[List.mem_singleton]; exact hne.2.1)
 have hne23:=hne.2.1
 simp only[Nat.reduceAdd,zw_,Nat.reduceLeDiff,z07,reduceCtorEq,e7,hown7,c1,c3,c5,c7,c8,z1,hne23,hp27]
 generalize (g7.put p3 (some (.cells [.int .i64 k.s,.int .i64 k.a,.int .i64 k.c,.int .i64 k.hd,.int .i64 k.g,.int .i64 k.st,z,xh,xw,xc,xg] .rw)))=g8 at Fp7 hown7' hg7 F07 hp2 ⊢
 have hl2:p2<g8.next:=Fp7.ok.lt hp2
 have F89:Fr [p2] g8 (g8.put p2 (some (.cells [.int .i64 k.s,.int .i64 k.a,.int .i64 k.c,.int .i64 k.hd,.int .i64 k.g,.int .i64 k.st,z,xh,xw,xc,xg] .rw))):=(Fr.refl Fp7.ok).put (.inl (by simp)) hl2 _
 -- where all stands
 have hp2n:p2<h5.next:=A.ok.lt A.l2
 have hp3n:=A.l3
 have n0:=P.fr.le
 have n1:=F1.le
 have n2:=F3.le
 have n3:=F5.le
 have n4:=F7.le
 rw[hg1] at n2
 rw[hg3] at n3
 rw[hg5] at n4
 have same:∀ {a b:H}{L:List Nat}{c:Nat},Fr L a b->(∀q∈L,q<h5.next)->h5.next<=c->c<a.next->b.get c=a.get c:=fun F hL h1 h2=>F.same _ h2 fun q=>by have:=hL _ q; omega
 have L3:∀q∈[p3],q<h5.next:=by simpa using hp3n
 have L2:∀q∈[p2],q<h5.next:=by simpa using hp2n
 have L0:∀q∈([]:List Nat),q<h5.next:=by simp
 -- from each place on to the end
 have t7:∀c,h5.next<=c->c<g7.next->(g8.put p2 (some (.cells [.int .i64 k.s,.int .i64 k.a,.int .i64 k.c,.int .i64 k.hd,.int .i64 k.g,.int .i64 k.st,z,xh,xw,xc,xg] .rw))).get c=g7.get c:=fun c h1 h2=>by
  rw[same F89 L2 h1 (by omega),same Fp7 L3 h1 h2]
 have t5:∀c,h5.next<=c->c<g5.next->(g8.put p2 (some (.cells [.int .i64 k.s,.int .i64 k.a,.int .i64 k.c,.int .i64 k.hd,.int .i64 k.g,.int .i64 k.st,z,xh,xw,xc,xg] .rw))).get c=g5.get c:=fun c h1 h2=>by
  rw[t7 c h1 (by omega),same F7 L0 h1 (by omega),same Fp5 L3 h1 h2]
 have t3:∀c,h5.next<=c->c<g3.next->(g8.put p2 (some (.cells [.int .i64 k.s,.int .i64 k.a,.int .i64 k.c,.int .i64 k.hd,.int .i64 k.g,.int .i64 k.st,z,xh,xw,xc,xg] .rw))).get c=g3.get c:=fun c h1 h2=>by
  rw[t5 c h1 (by omega),same F5 L0 h1 (by omega),same Fp3 L3 h1 h2]
 have t1:∀c,h5.next<=c->c<g1.next->(g8.put p2 (some (.cells [.int .i64 k.s,.int .i64 k.a,.int .i64 k.c,.int .i64 k.hd,.int .i64 k.g,.int .i64 k.st,z,xh,xw,xc,xg] .rw))).get c=g1.get c:=fun c h1 h2=>by
  rw[t3 c h1 (by omega),same F3 L0 h1 (by omega),same Fp1 L3 h1 h2]
 have t0:∀c,h5.next<=c->c<g.next->(g8.put p2 (some (.cells [.int .i64 k.s,.int .i64 k.a,.int .i64 k.c,.int .i64 k.hd,.int .i64 k.g,.int .i64 k.st,z,xh,xw,xc,xg] .rw))).get c=g.get c:=fun c h1 h2=>by
  rw[t1 c h1 (by omega),same F1 L0 h1 h2]
 have Fall:Fr [p2,p3] h5 (g8.put p2 (some (.cells [.int .i64 k.s,.int .i64 k.a,.int .i64 k.c,.int .i64 k.hd,.int .i64 k.g,.int .i64 k.st,z,xh,xw,xc,xg] .rw))):=(F07.mono (L':=[p2,p3]) (by simp)).trans F89 (by simp)
 refine Ev.some ⟨⟨z,xh,xw,xc,xg⟩,g.next,g1.next,g3.next,g5.next,g7.next,rfl,Fall,⟨⟨n0,n1,n2,n3,n4⟩,W0.congr t0 (Nat.le_refl _),G1.congr fun b hb=>t1 b (Nat.le_trans n0 (b1 b hb).1) (b1 b hb).2,b1,G3.congr fun b hb=>t3 b (by have:=(b3 b hb).1; omega) (b3 b hb).2,?_,⟨vs,G5.congr fun b hb=>t5 b (by have:=(b5 b hb).1; omega) (b5 b hb).2,hvl,fun i v l h1 h2 => ?_⟩,?_,G7.congr fun b hb=>t7 b (by have:=(b7 b hb).1; omega) (b7 b hb).2,?_⟩,by show g7.next<=g8.next; omega⟩
 ·intro a ha; have:=b3 a ha; rw[hg1] at this; exact this
 ·-- rows of the state itself
  obtain⟨hz,hz2⟩ | ⟨cb,cc,ck,cvs,hcx,hcb,hcl,hcr⟩:=A.Z.c
  ·rw[hz2] at h2; simp at h2
  ·have hcb4:g4.get cb=some (.cells cvs ck):=A.sb' F04 _ _ hcb
   have hvv:vs=cvs:=by
    rw[hcx] at hvs
    rw[zhc hcb4 (by omega),List.drop_zero,List.take_of_length_le (by omega)] at hvs
    exact(Option.some.inj hvs).symm
   subst hvv
   exact hcr i v l h1 h2
 ·intro a ha; have:=b5 a ha; rw[hg3] at this; exact this
 ·intro a ha; have:=b7 a ha; rw[hg5] at this; exact this
structure RSt.small (r:RSt):Prop where
 f:r.F.length<=100000
 l:∀l∈r.F,l.length<=100000
 h:r.Hs.length<=100000
 w:r.Wk.length<=100000
 c:r.Cm.length<=100000
 g:r.Gv.length<=100000
theorem z0fn {g0:Nat->Option Blk}{k:Cfg}{h:H} (ok:h.ok) {s:StV}{r:RSt} (sb:Sub g0 h.get) (Z:StAt g0 s r) (B:r.small) :
  Ev (C 276 [s.v k] h) fun q=>∃t n0 n1 n2 n3 n4 n5,q.1=t.v k/\Fr [] h q.2/\TSt k g0 q.2.get n0 n1 n2 n3 n4 n5 t r/\h.next<=n0/\n5<=q.2.next:=by
 refine z0e (af:=F.z18) (by kernel_rfl) rfl ?_
 unfold StV.v
 rw[S.zx5]
 have f1:=Z.f.slv.one
 have f2:=Z.h.slv.one
 have f3:=Z.w.slv.one
 have f4:=Z.c.slv.one
 have f5:=Z.g.slv.one
 have F0:Fr [] h ((h.new (.cells [.int .i64 k.s,.int .i64 k.a,.int .i64 k.c,.int .i64 k.hd,.int .i64 k.g,.int .i64 k.st,s.f,s.h,s.w,s.c,s.g] .rw)).new (.cells [.int .i64 0,.int .i64 0,.int .i64 0,.int .i64 0,.int .i64 0,.int .i64 0,.nilsl,.nilsl,.nilsl,.nilsl,.nilsl] .rw)):=((Fr.refl ok).new _).new _
 have hp:((h.new (.cells [.int .i64 k.s,.int .i64 k.a,.int .i64 k.c,.int .i64 k.hd,.int .i64 k.g,.int .i64 k.st,s.f,s.h,s.w,s.c,s.g] .rw)).new (.cells [.int .i64 0,.int .i64 0,.int .i64 0,.int .i64 0,.int .i64 0,.int .i64 0,.nilsl,.nilsl,.nilsl,.nilsl,.nilsl] .rw)).get h.next=some (.cells [.int .i64 k.s,.int .i64 k.a,.int .i64 k.c,.int .i64 k.hd,.int .i64 k.g,.int .i64 k.st,s.f,s.h,s.w,s.c,s.g] .rw):=by
  rw[z0z (Nat.ne_of_lt (Nat.lt_succ_self _)),ze]
 have hp2:((h.new (.cells [.int .i64 k.s,.int .i64 k.a,.int .i64 k.c,.int .i64 k.hd,.int .i64 k.g,.int .i64 k.st,s.f,s.h,s.w,s.c,s.g] .rw)).new (.cells [.int .i64 0,.int .i64 0,.int .i64 0,.int .i64 0,.int .i64 0,.int .i64 0,.nilsl,.nilsl,.nilsl,.nilsl,.nilsl] .rw)).get (h.next+1)=some (.cells [.int .i64 0,.int .i64 0,.int .i64 0,.int .i64 0,.int .i64 0,.int .i64 0,.nilsl,.nilsl,.nilsl,.nilsl,.nilsl] .rw):=ze _ _
 have hn0:(h.new (.cells [.int .i64 k.s,.int .i64 k.a,.int .i64 k.c,.int .i64 k.hd,.int .i64 k.g,.int .i64 k.st,s.f,s.h,s.w,s.c,s.g] .rw)).next=h.next+1:=rfl
 have hn1:((h.new (.cells [.int .i64 k.s,.int .i64 k.a,.int .i64 k.c,.int .i64 k.hd,.int .i64 k.g,.int .i64 k.st,s.f,s.h,s.w,s.c,s.g] .rw)).new (.cells [.int .i64 0,.int .i64 0,.int .i64 0,.int .i64 0,.int .i64 0,.int .i64 0,.nilsl,.nilsl,.nilsl,.nilsl,.nilsl] .rw)).next=h.next+2:=rfl
 simp only[S.z18]
 rw[hn0]
 generalize ((h.new (.cells [.int .i64 k.s,.int .i64 k.a,.int .i64 k.c,.int .i64 k.hd,.int .i64 k.g,.int .i64 k.st,s.f,s.h,s.w,s.c,s.g] .rw)).new (.cells [.int .i64 0,.int .i64 0,.int .i64 0,.int .i64 0,.int .i64 0,.int .i64 0,.nilsl,.nilsl,.nilsl,.nilsl,.nilsl] .rw))=h1 at F0 hp hp2 hn1 ⊢
 rw[hn1]
 have F1:Fr [] h1 (h1.new (.cells [.int .i64 0,.int .i64 0,.int .i64 0,.int .i64 0,.int .i64 0,.int .i64 0,.nilsl,.nilsl,.nilsl,.nilsl,.nilsl] .rw)):=(Fr.refl F0.ok).new _
 have hn2:(h1.new (.cells [.int .i64 0,.int .i64 0,.int .i64 0,.int .i64 0,.int .i64 0,.int .i64 0,.nilsl,.nilsl,.nilsl,.nilsl,.nilsl] .rw)).next=h.next+3:=by rw[H.next_new,hn1]
 have hp':=F1.get F0.ok hp (by simp)
 have hp2':=F1.get F0.ok hp2 (by simp)
 have hp3:(h1.new (.cells [.int .i64 0,.int .i64 0,.int .i64 0,.int .i64 0,.int .i64 0,.int .i64 0,.nilsl,.nilsl,.nilsl,.nilsl,.nilsl] .rw)).get (h.next+2)=some (.cells [.int .i64 0,.int .i64 0,.int .i64 0,.int .i64 0,.int .i64 0,.int .i64 0,.nilsl,.nilsl,.nilsl,.nilsl,.nilsl] .rw):=by rw[<-hn1]; exact ze _ _
 have hfill:∀l:List V,l.length=6->fill [.int .i64 0,.int .i64 0,.int .i64 0,.int .i64 0,.int .i64 0,.int .i64 0,.nilsl,.nilsl,.nilsl,.nilsl,.nilsl] [] [(0,6,.c (.agg l))]=some (l ++ [.nilsl,.nilsl,.nilsl,.nilsl,.nilsl]):=by
  intro l hl
  simp only[fill,opd,boxc,V.cells,hl]
  simp[z07,hl]
 have hfill':=hfill [.int .i64 k.s,.int .i64 k.a,.int .i64 k.c,.int .i64 k.hd,.int .i64 k.g,.int .i64 k.st] rfl
 have hld6:h1.ldN 6 (.ptr h.next 0)=some (.agg [.int .i64 k.s,.int .i64 k.a,.int .i64 k.c,.int .i64 k.hd,.int .i64 k.g,.int .i64 k.st]):=by
  rw[zoo hp (by simp)]; rfl
 have hst3:(h1.new (.cells [.int .i64 0,.int .i64 0,.int .i64 0,.int .i64 0,.int .i64 0,.int .i64 0,.nilsl,.nilsl,.nilsl,.nilsl,.nilsl] .rw)).st 11 (.ptr (h.next+2) 0) (.agg ([.int .i64 k.s,.int .i64 k.a,.int .i64 k.c,.int .i64 k.hd,.int .i64 k.g,.int .i64 k.st] ++ [.nilsl,.nilsl,.nilsl,.nilsl,.nilsl]))=some ((h1.new (.cells [.int .i64 0,.int .i64 0,.int .i64 0,.int .i64 0,.int .i64 0,.int .i64 0,.nilsl,.nilsl,.nilsl,.nilsl,.nilsl] .rw)).put (h.next+2) (some (.cells [.int .i64 k.s,.int .i64 k.a,.int .i64 k.c,.int .i64 k.hd,.int .i64 k.g,.int .i64 k.st,.nilsl,.nilsl,.nilsl,.nilsl,.nilsl] .rw))):=by
  rw[z92,hp3]; rfl
 simp only[hld6,hfill',hst3,zd]
 have F2:Fr [h.next+2] (h1.new (.cells [.int .i64 0,.int .i64 0,.int .i64 0,.int .i64 0,.int .i64 0,.int .i64 0,.nilsl,.nilsl,.nilsl,.nilsl,.nilsl] .rw)) ((h1.new (.cells [.int .i64 0,.int .i64 0,.int .i64 0,.int .i64 0,.int .i64 0,.int .i64 0,.nilsl,.nilsl,.nilsl,.nilsl,.nilsl] .rw)).put (h.next+2) (some (.cells [.int .i64 k.s,.int .i64 k.a,.int .i64 k.c,.int .i64 k.hd,.int .i64 k.g,.int .i64 k.st,.nilsl,.nilsl,.nilsl,.nilsl,.nilsl] .rw))):=(Fr.refl F1.ok).put (.inl (by simp)) (by rw[hn2]; omega) _
 have hpp:=F2.get F1.ok hp' (by simp)
 have hpp2:=F2.get F1.ok hp2' (by simp)
 have hpp3:=zq (h1.new (.cells [.int .i64 0,.int .i64 0,.int .i64 0,.int .i64 0,.int .i64 0,.int .i64 0,.nilsl,.nilsl,.nilsl,.nilsl,.nilsl] .rw)) (h.next+2) (some (.cells [.int .i64 k.s,.int .i64 k.a,.int .i64 k.c,.int .i64 k.hd,.int .i64 k.g,.int .i64 k.st,.nilsl,.nilsl,.nilsl,.nilsl,.nilsl] .rw))
 have hn5:((h1.new (.cells [.int .i64 0,.int .i64 0,.int .i64 0,.int .i64 0,.int .i64 0,.int .i64 0,.nilsl,.nilsl,.nilsl,.nilsl,.nilsl] .rw)).put (h.next+2) (some (.cells [.int .i64 k.s,.int .i64 k.a,.int .i64 k.c,.int .i64 k.hd,.int .i64 k.g,.int .i64 k.st,.nilsl,.nilsl,.nilsl,.nilsl,.nilsl] .rw))).next=h.next+3:=hn2
 have F05:Fr [] h ((h1.new (.cells [.int .i64 0,.int .i64 0,.int .i64 0,.int .i64 0,.int .i64 0,.int .i64 0,.nilsl,.nilsl,.nilsl,.nilsl,.nilsl] .rw)).put (h.next+2) (some (.cells [.int .i64 k.s,.int .i64 k.a,.int .i64 k.c,.int .i64 k.hd,.int .i64 k.g,.int .i64 k.st,.nilsl,.nilsl,.nilsl,.nilsl,.nilsl] .rw))):=(F0.trans' F1).trans F2 (fun b hb=>.inr (by simp only[List.mem_singleton] at hb; omega))
 generalize ((h1.new (.cells [.int .i64 0,.int .i64 0,.int .i64 0,.int .i64 0,.int .i64 0,.int .i64 0,.nilsl,.nilsl,.nilsl,.nilsl,.nilsl] .rw)).put (h.next+2) (some (.cells [.int .i64 k.s,.int .i64 k.a,.int .i64 k.c,.int .i64 k.hd,.int .i64 k.g,.int .i64 k.st,.nilsl,.nilsl,.nilsl,.nilsl,.nilsl] .rw)))=h5 at F2 hpp hpp2 hpp3 hn5 F05 ⊢
 have A:CpSt g0 k s r h5 h.next (h.next+1) (h.next+2):=by
  have non:∀n,h.next<=n->g0 n=none:=fun n hn=>by
   cases hg:g0 n with
   | none=>rfl
   | some x=>have:=sb.lt ok hg; omega
  exact⟨F2.ok,hpp,⟨by omega,by omega,by omega⟩,hpp2,by omega,Z,sb.fr0 ok F05,⟨non _ (by omega),non _ (by omega)⟩,⟨B.f,B.l,B.h,B.w,B.c,B.g⟩⟩
 have P0:CpAt k s r h5 h5 h.next (h.next+2) .nilsl 0:=⟨.refl F2.ok,hpp3,.inl ⟨rfl,rfl⟩⟩
 refine z0f (α:=Nat × V) (fun a=>S.z66 (.ptr h.next 0) (.ptr (h.next+1) 0) (.ptr (h.next+2) 0) (.int .i64 (a.1:Nat)))
  (fun a g=>a.1<=r.F.length/\CpAt k s r h5 g h.next (h.next+2) a.2 a.1) (fun a _=>r.F.length-a.1)
  (fun q=>q.1=.exit 0/\q.2.1=S.ze7 (.ptr h.next 0) (.ptr (h.next+1) 0) (.ptr (h.next+2) 0)/\∃z,CpAt k s r h5 q.2.2 h.next (h.next+2) z r.F.length) (0,.nilsl) rfl ⟨Nat.zero_le _,P0⟩ ?_ ?_
 rotate_left
 ·rintro⟨_,_,g⟩ ⟨rfl,rfl,z,P⟩
  show Ev (S.zgc W (.exit 0) _ _) _
  rw[S.zqc]
  refine(z0i6 A P rfl).mono ?_
  rintro⟨_,g'⟩ ⟨t,n1,n2,n3,n4,n5,rfl,F',T,hle⟩
  exact⟨t,_,n1,n2,n3,n4,n5,rfl,F05.trans F' (fun b hb=>.inr (by simp only[List.mem_cons,List.not_mem_nil,or_false] at hb; omega)),T,by omega,hle⟩
 rintro⟨i,z⟩ g ⟨hi,P⟩
 dsimp only at hi P ⊢
 rw[S.zu0]
 by_cases hil:i<r.F.length
 ·refine(z0f5 A P hil).mono ?_
  rintro⟨_,_,g'⟩ ⟨rfl,rfl,z',P'⟩
  exact .inl ⟨(i+1,z'),rfl,rfl,⟨hil,P'⟩,Nat.sub_lt_sub_left hil (Nat.lt_succ_self i)⟩
 ·have hie:i=r.F.length:=by omega
  subst hie
  have Zs:=A.sub P.fr
  have hlen:=Zs.f.len
  have hst:=P.fr.get A.ok A.st (by simp only[List.mem_singleton]; exact A.ne.1)
  have d:decide ((r.F.length:Int)<(r.F.length:Int))=false:=decide_eq_false (Int.lt_irrefl _)
  simp only[S.z93,zw_,Nat.reduceLeDiff,z07,fill,repl,opd,hst,f1,hlen,d]
  exact Ev.some (.inr ⟨by simp,rfl,rfl,z,P⟩)
theorem z09i {k:Cfg}{h:H} (ok:h.ok) {t:StV}{r:RSt} (f1:t.f.one=true) (f3:t.w.one=true) (f4:t.c.one=true) (Th:Grown h.get t.h 3 (r.Hs.map HoldR.cs).flatten) (Tg:Grown h.get t.g 1 (r.Gv.map (.int .u64))) (Fh:∀a∈t.h.blk,a∉t.g.blk) (Bg:r.Gv.length<=100000) (Bh:r.Hs.length<=100000) (w q n:Int) :
  Ev (C 277 [t.v k,.int .i64 w,.int .u64 q,.int .i64 n] h) fun z=>∃xh xg,z.1=(⟨t.f,xh,t.w,t.c,xg⟩:StV).v k/\Fr (t.h.blk ++ t.g.blk) h z.2/\RowHo z.2.get xh (r.gives w q n).Hs/\RowO .u64 z.2.get xg (r.gives w q n).Gv/\(∀a∈xh.blk,h.next<=a)/\(∀a∈xg.blk,h.next<=a):=by
 refine z0e (af:=F.z3i) (by kernel_rfl) rfl ?_
 unfold StV.v
 rw[S.zxr]
 have f2:=Th.slv.one
 have f5:=Tg.slv.one
 have F0:Fr [] h ((h.new (.cells [.int .i64 k.s,.int .i64 k.a,.int .i64 k.c,.int .i64 k.hd,.int .i64 k.g,.int .i64 k.st,t.f,t.h,t.w,t.c,t.g] .rw)).new (.cells [.int .i64 0,.int .i64 0,.int .i64 0,.int .i64 0,.int .i64 0,.int .i64 0,.nilsl,.nilsl,.nilsl,.nilsl,.nilsl] .rw)):=((Fr.refl ok).new _).new _
 have hp:((h.new (.cells [.int .i64 k.s,.int .i64 k.a,.int .i64 k.c,.int .i64 k.hd,.int .i64 k.g,.int .i64 k.st,t.f,t.h,t.w,t.c,t.g] .rw)).new (.cells [.int .i64 0,.int .i64 0,.int .i64 0,.int .i64 0,.int .i64 0,.int .i64 0,.nilsl,.nilsl,.nilsl,.nilsl,.nilsl] .rw)).get h.next=some (.cells [.int .i64 k.s,.int .i64 k.a,.int .i64 k.c,.int .i64 k.hd,.int .i64 k.g,.int .i64 k.st,t.f,t.h,t.w,t.c,t.g] .rw):=by
  rw[z0z (Nat.ne_of_lt (Nat.lt_succ_self _)),ze]
 have hp2:((h.new (.cells [.int .i64 k.s,.int .i64 k.a,.int .i64 k.c,.int .i64 k.hd,.int .i64 k.g,.int .i64 k.st,t.f,t.h,t.w,t.c,t.g] .rw)).new (.cells [.int .i64 0,.int .i64 0,.int .i64 0,.int .i64 0,.int .i64 0,.int .i64 0,.nilsl,.nilsl,.nilsl,.nilsl,.nilsl] .rw)).get (h.next+1)=some (.cells [.int .i64 0,.int .i64 0,.int .i64 0,.int .i64 0,.int .i64 0,.int .i64 0,.nilsl,.nilsl,.nilsl,.nilsl,.nilsl] .rw):=ze _ _
 have hn0:(h.new (.cells [.int .i64 k.s,.int .i64 k.a,.int .i64 k.c,.int .i64 k.hd,.int .i64 k.g,.int .i64 k.st,t.f,t.h,t.w,t.c,t.g] .rw)).next=h.next+1:=rfl
 have hnn:((h.new (.cells [.int .i64 k.s,.int .i64 k.a,.int .i64 k.c,.int .i64 k.hd,.int .i64 k.g,.int .i64 k.st,t.f,t.h,t.w,t.c,t.g] .rw)).new (.cells [.int .i64 0,.int .i64 0,.int .i64 0,.int .i64 0,.int .i64 0,.int .i64 0,.nilsl,.nilsl,.nilsl,.nilsl,.nilsl] .rw)).next=h.next+2:=rfl
 simp only[S.z3i]
 rw[hn0]
 generalize ((h.new (.cells [.int .i64 k.s,.int .i64 k.a,.int .i64 k.c,.int .i64 k.hd,.int .i64 k.g,.int .i64 k.st,t.f,t.h,t.w,t.c,t.g] .rw)).new (.cells [.int .i64 0,.int .i64 0,.int .i64 0,.int .i64 0,.int .i64 0,.int .i64 0,.nilsl,.nilsl,.nilsl,.nilsl,.nilsl] .rw))=h1 at F0 hp hp2 hnn ⊢
 have G1:=Tg.fr ok F0 (by simp)
 have Fa:Fr [] h1 (h1.new (.cells [.int .u64 q] .rw)):=(Fr.refl F0.ok).new _
 obtain⟨xg,g1,e1,F1,GG,hxg,_⟩:=Grown.push Fa.ok (bytes:=8) (G1.fr F0.ok Fa (by simp)) (ze h1 _) (e:=1) rfl rfl (by decide) ⟨by decide,by decide⟩ (by rw[List.length_map]; omega)
 have tg:=Tg.lt ok
 have th:=Th.lt ok
 have hne:h.next∉t.g.blk:=fun q=>by have:=tg _ q; omega
 have hne2:h.next+1∉t.g.blk:=fun q=>by have:=tg _ q; omega
 have hp1:=F1.get Fa.ok (Fa.get F0.ok hp (by simp)) hne
 have hp12:=F1.get Fa.ok (Fa.get F0.ok hp2 (by simp)) hne2
 have ok1:=F1.ok
 have s1:=GG.slv
 have Fp1:Fr [h.next] g1 (g1.put h.next (some (.cells [.int .i64 k.s,.int .i64 k.a,.int .i64 k.c,.int .i64 k.hd,.int .i64 k.g,.int .i64 k.st,t.f,t.h,t.w,t.c,xg] .rw))):=(Fr.refl ok1).put (.inl (by simp)) (ok1.lt hp1) _
 have hpp:=zq g1 h.next (some (.cells [.int .i64 k.s,.int .i64 k.a,.int .i64 k.c,.int .i64 k.hd,.int .i64 k.g,.int .i64 k.st,t.f,t.h,t.w,t.c,xg] .rw))
 have n12:h.next+1≠h.next:=by omega
 have hpp2:=Fp1.get ok1 hp12 (by simp)
 have o1:=s1.one
 have o2:=s1.cells
 simp only[Nat.reduceAdd,zw_,Nat.reduceLeDiff,z07,reduceCtorEq,finV,z3w,z6u,z48,hp,f5,e1,hp1,o1,o2,f2]
 have hnx:(g1.put h.next (some (.cells [.int .i64 k.s,.int .i64 k.a,.int .i64 k.c,.int .i64 k.hd,.int .i64 k.g,.int .i64 k.st,t.f,t.h,t.w,t.c,xg] .rw))).next=g1.next:=rfl
 generalize (g1.put h.next (some (.cells [.int .i64 k.s,.int .i64 k.a,.int .i64 k.c,.int .i64 k.hd,.int .i64 k.g,.int .i64 k.st,t.f,t.h,t.w,t.c,xg] .rw)))=g2 at Fp1 hpp hpp2 hnx ⊢
 have Fh2:∀a∈t.h.blk,a∉[h.next]:=fun a ha hb=>by
  simp only[List.mem_singleton] at hb; have:=th a ha; omega
 have H0:=Th.fr ok F0 (by simp)
 have H2:=((H0.fr F0.ok Fa (by simp)).fr Fa.ok F1 Fh).fr ok1 Fp1 Fh2
 have Fb:Fr [] g2 (g2.new (.cells [.int .i64 w,.int .u64 q,.int .i64 n] .rw)):=(Fr.refl Fp1.ok).new _
 obtain⟨xh,g3,e3,F3,GH,hxh,_⟩:=Grown.push Fb.ok (bytes:=24) (H2.fr Fp1.ok Fb (by simp)) (ze g2 _) (e:=3) rfl rfl (by decide) ⟨by decide,by decide⟩ (by rw[zc7 (z03u _),List.length_map]; omega)
 rw[hnx] at e3
 have hneh:h.next∉t.h.blk:=fun q=>by have:=th _ q; omega
 have hneh2:h.next+1∉t.h.blk:=fun q=>by have:=th _ q; omega
 have hp3:=F3.get Fb.ok (Fb.get Fp1.ok hpp (by simp)) hneh
 have hp32:=F3.get Fb.ok (Fb.get Fp1.ok hpp2 (by simp)) hneh2
 have s3:=GH.slv
 have o3:=s3.one
 have o4:=s3.cells
 have ok3:=F3.ok
 simp only[Nat.reduceAdd,zw_,Nat.reduceLeDiff,z07,reduceCtorEq,e3,hp3,o3,o4,f1,f3,f4,o1,n12,hp32]
 have Fp3:Fr [h.next] g3 (g3.put h.next (some (.cells [.int .i64 k.s,.int .i64 k.a,.int .i64 k.c,.int .i64 k.hd,.int .i64 k.g,.int .i64 k.st,t.f,xh,t.w,t.c,xg] .rw))):=(Fr.refl ok3).put (.inl (by simp)) (ok3.lt hp3) _
 generalize (g3.put h.next (some (.cells [.int .i64 k.s,.int .i64 k.a,.int .i64 k.c,.int .i64 k.hd,.int .i64 k.g,.int .i64 k.st,t.f,xh,t.w,t.c,xg] .rw)))=g4 at Fp3 ⊢
 have Fp4:Fr [h.next+1] g4 (g4.put (h.next+1) (some (.cells [.int .i64 k.s,.int .i64 k.a,.int .i64 k.c,.int .i64 k.hd,.int .i64 k.g,.int .i64 k.st,t.f,xh,t.w,t.c,xg] .rw))):=(Fr.refl Fp3.ok).put (.inl (by simp)) (Fp3.lt (ok3.lt hp32)) _
 have l1:=Fa.le
 have l2:=F1.le
 have l3:=Fp1.le
 have l4:=Fb.le
 have hxg':∀a∈xg.blk,h.next+2<=a:=fun a ha=>by have:=hxg a ha; omega
 have hxh':∀a∈xh.blk,h.next+2<=a:=fun a ha=>by have:=hxh a ha; omega
 have gl:=fun a ha=>GG.lt ok1 a ha
 refine Ev.some ⟨xh,xg,rfl,?_,?_,?_,fun a ha=>by have:=hxh' a ha; omega,fun a ha=>by have:=hxg' a ha; omega⟩
 ·have q1:Fr (t.h.blk ++ t.g.blk) h g1:=((F0.trans' Fa).mono (L':=t.h.blk ++ t.g.blk) (by simp)).trans F1 (fun b hb=>.inl (List.mem_append_right _ hb))
  have q2:Fr (t.h.blk ++ t.g.blk) h g3:=((q1.trans Fp1 (fun b hb=>.inr (by simp only[List.mem_singleton] at hb; omega))).trans Fb (by simp)).trans F3 (fun b hb=>.inl (List.mem_append_left _ hb))
  exact(q2.trans Fp3 (fun b hb=>.inr (by simp only[List.mem_singleton] at hb; omega))).trans Fp4 (fun b hb=>.inr (by simp only[List.mem_singleton] at hb; omega))
 ·have:Grown g3.get xh 3 ((r.gives w q n).Hs.map HoldR.cs).flatten:=by
   unfold RSt.gives
   rw[List.map_append,List.flatten_append]
   simp only[List.map_cons,List.map_nil,List.flatten_cons,List.flatten_nil,List.append_nil]
   exact GH
  exact((this.fr ok3 Fp3 (fun b hb hc=>by simp only[List.mem_singleton] at hc; have:=hxh' b hb; omega)).fr Fp3.ok Fp4 (fun b hb hc=>by simp only[List.mem_singleton] at hc; have:=hxh' b hb; omega)).rowH
 ·have:Grown g1.get xg 1 ((r.gives w q n).Gv.map (.int .u64)):=by
   unfold RSt.gives
   rw[List.map_append]
   exact GG
  have hd:∀b∈xg.blk,b∉t.h.blk:=fun b hb hc=>by have:=hxg' b hb; have:=th b hc; omega
  have hd1:∀b∈xg.blk,b∉[h.next]:=fun b hb hc=>by simp only[List.mem_singleton] at hc; have:=hxg' b hb; omega
  have hd2:∀b∈xg.blk,b∉[h.next+1]:=fun b hb hc=>by simp only[List.mem_singleton] at hc; have:=hxg' b hb; omega
  exact(((((this.fr ok1 Fp1 hd1).fr Fp1.ok Fb (by simp)).fr Fb.ok F3 hd).fr ok3 Fp3 hd1).fr Fp3.ok Fp4 hd2).rowO
theorem z0h4 {l:List V}{i:Nat} (hi:i<l.length) (v:V):z07 l i [v]=l.set i v:=by
 unfold z07
 rw[List.set_eq_take_append_cons_drop,if_pos hi,List.append_assoc]; rfl
theorem z02j {g:Option Blk}{l:List V}{k:Bk}{i:Nat}{v:V} (hg:g=some (.cells l k)) (hk:k≠.ro) (hi:i<l.length) (hv:v.one=true):stB g i [v]=some (.cells (l.set i v) k):=by
 have h1:decide (k=.ro)=false:=decide_eq_false hk
 have h2:[v].all V.one=true:=by simp[hv]
 have h3:decide (i+1<=l.length)=true:=decide_eq_true hi
 rw[hg,z6q,show [v].length=1 from rfl,h1,h2,h3]
 show some (Blk.cells (z07 l i [v]) k)=_
 rw[z0h4 hi]
theorem z00h (kd:Go.IntKind) (l:List Int) (i:Nat) (v:Int):(l.map (V.int kd)).set i (.int kd v)=(l.set i v).map (.int kd):=by rw[List.map_set]
theorem zkv {α:Type}{l:List α}{i j:Nat}{x y:α} (h:(l.set i x)[j]?=some y):(i=j/\y=x)\/(i≠j/\l[j]?=some y):=by
 by_cases e:i=j
 ·subst e
  by_cases hi:i<l.length
  ·rw[List.getElem?_set_self hi] at h; exact .inl ⟨rfl,(Option.some.inj h).symm⟩
  ·rw[List.getElem?_eq_none (by rw[List.length_set]; omega)] at h; cases h
 ·rw[List.getElem?_set_ne e] at h; exact .inr ⟨e,h⟩
theorem z06d {α:Type}{l:List α}{f:α->α}{i j:Nat}{y:α} (h:(l.modify i f)[j]?=some y):(i=j/\∃x,l[j]?=some x/\y=f x)\/(i≠j/\l[j]?=some y):=by
 rw[List.getElem?_modify] at h
 by_cases e:i=j
 ·subst e
  cases hl:l[i]? with
  | none=>rw[hl] at h; simp at h
  | some x=>rw[hl] at h; simp at h; exact .inl ⟨rfl,x,rfl,h.symm⟩
 ·simp only[if_neg e] at h
  cases hl:l[j]? with
  | none=>rw[hl] at h; simp at h
  | some x=>rw[hl] at h; simp at h; exact .inr ⟨e,by rw[h]⟩
theorem FW.set {g:H} (ok:g.ok) {lo hi:Nat}{x:V}{F:List (List Int)} (W:FW g.get lo hi x F) {n i:Nat}{l:List Int} (hl:F[n]?=some l) (hi2:i<l.length) (val:Int) :
  ∃bF v bi k,z0 1 x (.int .i64 (n:Int))=some (.ptr bF n)/\ldB (g.get bF) n=some v/\V.beq v v=true/\z0 1 v (.int .i64 (i:Int))=some (.ptr bi i)/\stB (g.get bi) i [.int .i64 val]=some (.cells ((l.set i val).map (.int .i64)) k)/\(lo<=bi/\bi<hi/\bi<g.next) /\
   FW (g.put bi (some (.cells ((l.set i val).map (.int .i64)) k))).get lo hi x (F.modify n fun l=>l.set i val):=by
 have hn:=z0a hl
 obtain⟨rfl,rfl⟩ | ⟨bF,vs,rfl,hb,hlen,hi1,hr,hm⟩:=W
 ·simp at hl
 ·obtain⟨v,hv⟩:∃v,vs[n]?=some v:=⟨_,List.getElem?_eq_getElem (by omega)⟩
  have R:=hr n v l hv hl
  obtain⟨bi,c,k,rfl,hbi,hk,h1,h2,hc⟩:=R
  refine⟨bF,_,bi,k,zs hn,by rw[hb,z08,hv]; rfl,z0dy _ _ _ _,zs hi2,?_,⟨h1,by omega,ok.lt hbi⟩,.inr ⟨bF,vs,by rw[List.length_modify],by rw[zf (by omega)]; exact hb,by rw[List.length_modify]; exact hlen,hi1,?_,hm⟩⟩
  ·rw[z02j hbi hk (by rw[List.length_map]; exact hi2) rfl,z00h]
  ·intro j u m h3 h4
   rcases z06d h4 with ⟨e,m',h5,h6⟩ | ⟨e,h5⟩
   ·subst e
    rw[hv] at h3; rw[hl] at h5
    cases h3; cases h5
    exact⟨bi,c,k,by rw[h6,List.length_set],by rw[zq,h6],hk,h1,h2,by rw[h6,List.length_set]; exact hc⟩
   ·have R':=hr j u m h3 h5
    refine R'.mono (fun a ha=>zf ?_) (Nat.le_refl _)
    rcases Nat.lt_or_ge n j with q | q
    ·exact Nat.ne_of_gt (hm n j _ u q hv h3 bi (by simp[V.blk]) a ha)
    ·exact Nat.ne_of_lt (hm j n u _ (by omega) h3 hv a ha bi (by simp[V.blk]))
theorem Grown.set1 {g:H} (ok:g.ok) {x:V}{l:List V} (G:Grown g.get x 1 l) {i:Nat} (hi:i<l.length) {v:V} (hv:v.one=true) :
  ∃b,z0 1 x (.int .i64 (i:Int))=some (.ptr b i)/\stB (g.get b) i [v]=some (.cells (l.set i v) (.gr 1))/\b∈x.blk/\b<g.next/\Grown (g.put b (some (.cells (l.set i v) (.gr 1)))).get x 1 (l.set i v):=by
 obtain⟨rfl,rfl⟩ | ⟨b,n,rfl,hl,hb⟩:=G
 ·simp at hi
 ·exact⟨b,zs (by omega),z02j hb (by simp) hi hv,by simp[V.blk],ok.lt hb,.inr ⟨b,n,rfl,by rw[List.length_set]; exact hl,zq _ _ _⟩⟩
theorem TSt.congr {k:Cfg}{g0 g g':Nat->Option Blk}{n0 n1 n2 n3 n4 n5:Nat}{t:StV}{r:RSt} (T:TSt k g0 g n0 n1 n2 n3 n4 n5 t r) (h:∀b,n0<=b->b<n5->g' b=g b):TSt k g0 g' n0 n1 n2 n3 n4 n5 t r:=by
 have le:=T.le
 obtain⟨vs,hc,hl,hr⟩:=T.c
 exact⟨le,T.f.congr (fun b h1 h2=>h b h1 (by omega)) (Nat.le_refl _),T.h.congr fun b hb=>h b (by have:=T.hb b hb; omega) (by have:=T.hb b hb; omega),T.hb,
  T.w.congr fun b hb=>h b (by have:=T.wb b hb; omega) (by have:=T.wb b hb; omega),T.wb,⟨vs,hc.congr fun b hb=>h b (by have:=T.cb b hb; omega) (by have:=T.cb b hb; omega),hl,hr⟩,T.cb,
  T.g.congr fun b hb=>h b (by have:=T.gb b hb; omega) (by have:=T.gb b hb; omega),T.gb⟩
theorem RowHo.congr {g g':Nat->Option Blk}{x:V}{l:List HoldR} (R:RowHo g x l) (h:∀b∈x.blk,g' b=g b):RowHo g' x l:=by
 obtain h1 | ⟨b,c,k,rfl,hb⟩:=R
 ·exact .inl h1
 ·exact .inr ⟨b,c,k,rfl,by rw[h b (by simp[V.blk])]; exact hb⟩
theorem FW.push2 {g:H} (ok:g.ok) {lo hi:Nat}{x:V}{F:List (List Int)} (W:FW g.get lo hi x F) {v:V} (hv1:v.one=true) (hB:F.length<=100000) :
  ∃vs g',(g.new (.cells [v] .rw)).append 1 24 x (.sl g.next 0 1 (.ex 1))=some (.sl (g.next+1) 0 (F.length+1) (.op 1),g')/\Fr x.blk g g'/\g'.get (g.next+1)=some (.cells (vs ++ [v]) (.gr 1))/\vs.length=F.length/\(∀(i:Nat) (u:V) (m:List Int),vs[i]?=some u->F[i]?=some m->RowW g.get u m lo hi)/\g'.get g.next=some (.cells [v] .rw):=by
 have F1:Fr [] g (g.new (.cells [v] .rw)):=(Fr.refl ok).new _
 have hnew:(g.new (.cells [v] .rw)).slc 1 (.sl g.next 0 1 (.ex 1))=some [v]:=by
  rw[zhc (ze _ _) (by simp),List.drop_zero,List.take_of_length_le (by simp)]
 have hall:[v].all V.one=true:=by simp[hv1]
 have hnn:(g.new (.cells [v] .rw)).next=g.next+1:=rfl
 obtain⟨rfl,rfl⟩ | ⟨b,vs,rfl,hb,hl,hi1,hr,hm⟩:=W
 ·refine⟨[],_,append_nil (n:=1) rfl hnew (by omega) hall (by omega) (by decide) (by decide),F1.new _,?_,rfl,by simp,?_⟩
  ·rw[<-hnn,ze]; rfl
  ·rw[z0z (by rw[hnn]; omega),ze]
 ·have hbl:b<g.next:=ok.lt hb
  have hold:(g.new (.cells [v] .rw)).slc 1 (.sl b 0 F.length (.op 1))=some vs:=by
   rw[zhc (F1.get ok hb (by simp)) (by omega),List.drop_zero,List.take_of_length_le (by omega)]
  have hsz:(F.length+1+(F.length+1) / 2+1000) * 24<=281474976710656:=by omega
  have Fp:Fr [b] g ((g.new (.cells [v] .rw)).put b none):=(F1.mono (by simp)).put (.inl (by simp)) (F1.ok.lt (F1.get ok hb (by simp))) _
  refine⟨vs,_,z00u (n:=1) rfl hnew hold (F1.get ok hb (by simp)) hall hsz (by decide) (by decide),Fp.new _,?_,hl,fun i u m h1 h2=>(hr i u m h1 h2).mono (fun _ _=>rfl) (by omega),?_⟩
  ·rw[show g.next+1=((g.new (.cells [v] .rw)).put b none).next from rfl,ze]
  ·rw[z0z (by show g.next≠g.next+1; omega),zf (by omega),ze]
structure DoAt (k:Cfg) (s:StV) (r:RSt) (c:CallR) (a:AnsR) (g:H) (p q pa po:Nat):Prop where
 E:ErrAt k s r c g p q
 an:g.get pa=some (.cells [.int .i64 a.err,.int .u64 a.h,.bool a.yes] .rw)
 ou:∃cs,g.get po=some (.cells cs .rw)/\cs.length=11
theorem DoAt.fr {k:Cfg}{s:StV}{r:RSt}{c:CallR}{a:AnsR}{g g':H}{p q pa po:Nat} (A:DoAt k s r c a g p q pa po) (F:Fr [] g g'):DoAt k s r c a g' p q pa po:=by
 obtain⟨cs,h1,h2⟩:=A.ou
 exact⟨A.E.fr F,F.get A.E.ok A.an (by simp),⟨cs,F.get A.E.ok h1 (by simp),h2⟩⟩
def tCs (k:Cfg) (t:StV):List V:=[.int .i64 k.s,.int .i64 k.a,.int .i64 k.c,.int .i64 k.hd,.int .i64 k.g,.int .i64 k.st,t.f,t.h,t.w,t.c,t.g]
structure SwAt (g0:Nat->Option Blk) (h:H) (k:Cfg) (s:StV) (r:RSt) (c:CallR) (a:AnsR) (g:H) (p q pa po pT n0 n1 n2 n3 n4 n5:Nat) (t:StV):Prop where
 D:DoAt k s r c a g p q pa po
 hok:h.ok
 sb:Sub g0 h.get
 Z0:StAt g0 s r
 F:Fr [] h g
 T:TSt k g0 g.get n0 n1 n2 n3 n4 n5 t r
 cs:g.get pT=some (.cells [.int .i64 k.s,.int .i64 k.a,.int .i64 k.c,.int .i64 k.hd,.int .i64 k.g,.int .i64 k.st,t.f,t.h,t.w,t.c,t.g] .rw)
 hn0:h.next<=n0
 hnT:n5<=pT
 lo:p<n0/\q<n0/\pa<n0/\po<n0/\po<h.next/\g0 po=none
def zml (g0:Nat->Option Blk) (h:H) (k:Cfg) (r':RSt) (po pT:Nat) (z:AX × List V × H):Prop :=
 z.1=.normal/\z.2.1=S.z04 (.ptr po 0) (.ptr pT 0)/\∃t',z.2.2.get pT=some (.cells [.int .i64 k.s,.int .i64 k.a,.int .i64 k.c,.int .i64 k.hd,.int .i64 k.g,.int .i64 k.st,t'.f,t'.h,t'.w,t'.c,t'.g] .rw)/\Fr [] h z.2.2/\StAt (ug g0 h z.2.2) t' r'/\∃cs,z.2.2.get po=some (.cells cs .rw)/\cs.length=11
section
variable {g0:Nat->Option Blk}{h:H}{k:Cfg}{s:StV}{r:RSt}{c:CallR}{a:AnsR}{g:H}{p q pa po pT n0 n1 n2 n3 n4 n5:Nat}{t:StV}
theorem SwAt.ok (A:SwAt g0 h k s r c a g p q pa po pT n0 n1 n2 n3 n4 n5 t):g.ok:=A.D.E.ok
end
section
variable {g0:Nat->Option Blk}{h:H}{k:Cfg}{s:StV}{r:RSt}{c:CallR}{a:AnsR}{g:H}{p q pa po pT n0 n1 n2 n3 n4 n5:Nat}{t:StV}
theorem SwAt.fw (A:SwAt g0 h k s r c a g p q pa po pT n0 n1 n2 n3 n4 n5 t) {g':H} (e:∀b,n0<=b->b<n1->g'.get b=g.get b):RowsO .i64 (ug g0 h g') t.f r.F :=
 (A.T.f.congr (fun b h1 h2=>by rw[z6w (Nat.le_trans A.hn0 h1)]; exact e b h1 h2) (Nat.le_refl _)).rows
theorem SwAt.hw (A:SwAt g0 h k s r c a g p q pa po pT n0 n1 n2 n3 n4 n5 t) {g':H} (e:∀b,n1<=b->b<n2->g'.get b=g.get b):RowHo (ug g0 h g') t.h r.Hs :=
 (A.T.h.congr fun b hb=>by
  have h1:=A.T.hb b hb
  have:=A.hn0; have:=A.T.le
  rw[z6w (by omega)]; exact e b h1.1 h1.2).rowH
theorem SwAt.ww (A:SwAt g0 h k s r c a g p q pa po pT n0 n1 n2 n3 n4 n5 t) {g':H} (e:∀b,n2<=b->b<n3->g'.get b=g.get b):RowO .u64 (ug g0 h g') t.w r.Wk :=
 (A.T.w.congr fun b hb=>by
  have h1:=A.T.wb b hb
  have:=A.hn0; have:=A.T.le
  rw[z6w (by omega)]; exact e b h1.1 h1.2).rowO
theorem SwAt.cw (A:SwAt g0 h k s r c a g p q pa po pT n0 n1 n2 n3 n4 n5 t) {g':H} (e:∀b,n3<=b->b<n4->g'.get b=g.get b):RowsO .i64 (ug g0 h g') t.c r.Cm:=by
 obtain⟨vs,hc,hl,hr⟩:=A.T.c
 exact(hc.congr fun b hb=>by
  have h1:=A.T.cb b hb
  have:=A.hn0; have:=A.T.le
  rw[z6w (by omega)]; exact e b h1.1 h1.2).rowsO hl fun i v l h1 h2=>(hr i v l h1 h2).sub (z02f A.sb A.hok _)
theorem SwAt.gw (A:SwAt g0 h k s r c a g p q pa po pT n0 n1 n2 n3 n4 n5 t) {g':H} (e:∀b,n4<=b->b<n5->g'.get b=g.get b):RowO .u64 (ug g0 h g') t.g r.Gv :=
 (A.T.g.congr fun b hb=>by
  have h1:=A.T.gb b hb
  have:=A.hn0; have:=A.T.le
  rw[z6w (by omega)]; exact e b h1.1 h1.2).rowO
theorem SwAt.zg (A:SwAt g0 h k s r c a g p q pa po pT n0 n1 n2 n3 n4 n5 t):StAt g.get t r:=A.T.at (A.sb.fr0 A.hok A.F)
theorem SwAt.lt (A:SwAt g0 h k s r c a g p q pa po pT n0 n1 n2 n3 n4 n5 t):n5<=pT/\pT<g.next/\h.next<=n0:=⟨A.hnT,A.ok.lt A.cs,A.hn0⟩
theorem SwAt.keep (A:SwAt g0 h k s r c a g p q pa po pT n0 n1 n2 n3 n4 n5 t):zml g0 h k r po pT (.normal,S.z04 (.ptr po 0) (.ptr pT 0),g) :=
 ⟨rfl,rfl,t,A.cs,A.F,⟨A.fw fun _ _ _=>rfl,A.hw fun _ _ _=>rfl,A.ww fun _ _ _=>rfl,A.cw fun _ _ _=>rfl,A.gw fun _ _ _=>rfl⟩,A.D.ou⟩
theorem SwAt.setF (A:SwAt g0 h k s r c a g p q pa po pT n0 n1 n2 n3 n4 n5 t) {n i:Nat}{l:List Int}{bi:Nat}{kk:Bk}{val:Int} (hb:n0<=bi/\bi<n1/\bi<g.next)
  (W:FW (g.put bi (some (.cells ((l.set i val).map (.int .i64)) kk))).get n0 n1 t.f (r.F.modify n fun l=>l.set i val)) :
  zml g0 h k { r with F:=r.F.modify n fun l=>l.set i val } po pT (.normal,S.z04 (.ptr po 0) (.ptr pT 0),g.put bi (some (.cells ((l.set i val).map (.int .i64)) kk))):=by
 have le:=A.T.le
 have lt:=A.lt
 have lo:=A.lo
 obtain⟨cs,h1,h2⟩:=A.D.ou
 refine⟨rfl,rfl,t,by rw[zf (by omega)]; exact A.cs,A.F.put (.inr (by omega)) hb.2.2 _,⟨?_,A.hw fun b h1 h2=>zf (by omega),A.ww fun b h1 h2=>zf (by omega),A.cw fun b h1 h2=>zf (by omega),A.gw fun b h1 h2=>zf (by omega)⟩,⟨cs,by rw[zf (by omega)]; exact h1,h2⟩⟩
 exact(W.congr (fun b h1 h2=>z6w (by omega)) (Nat.le_refl _)).rows
theorem z0l0 (A:SwAt g0 h k s r c a g p q pa po pT n0 n1 n2 n3 n4 n5 t) (hk:c.kind=4) {w:Int}{n i:Nat}{l:List Int} (hl:r.F[n]?=some l) (hi:i<l.length) (hn:r.node w c.h=(n:Int)) (hcn:c.n=(i:Int)) (gv ys:Bool) :
  Ev (S.zn W w (.ptr p 0) (.ptr q 0) (.ptr pa 0) (.ptr po 0) (r.node w c.h) gv ys (.ptr pT 0) g) (zml g0 h k (z0j r w c a) po pT):=by
 have hd:z0j r w c a={ r with F:=r.F.modify n fun l=>l.set i (-1) }:=by
  unfold z0j RSt.setF
  rw[hk,hn,hcn]; simp
 rw[hd,hn]
 have hcl:=A.D.E.cl
 rw[hk,hcn] at hcl
 have hcs:=A.cs
 have o1:=A.zg.f.slv.one
 have hlen:=A.zg.f.len
 obtain⟨bF,v,bi,kk,i1,l1,vb,i2,s2,hb,W⟩:=A.T.f.set A.ok hl hi (-1)
 simp only[S.zn,zw_,S.z16,S.z0w,S.z0r,S.z0t,Nat.reduceAdd,Nat.reduceLeDiff,Int.reduceEq,Int.reduceNeg,hcl,hcs,o1,i1,l1,i2,s2]
 exact Ev.some (A.setF hb W)
theorem z0lw {e:Nat}{x i:V}{b o:Nat} (h:z0 e x i=some (.ptr b o)):b∈x.blk:=by
 cases x with
 | sl b' o' n c =>
  simp only[z0] at h
  split at h
  ·simp only[Option.some.injEq,V.ptr.injEq] at h
   simp[V.blk,h.1]
  ·cases h
 | _=>simp[z0] at h
theorem SwAt.fr (A:SwAt g0 h k s r c a g p q pa po pT n0 n1 n2 n3 n4 n5 t) {g':H} (F:Fr [] g g'):SwAt g0 h k s r c a g' p q pa po pT n0 n1 n2 n3 n4 n5 t :=
 ⟨A.D.fr F,A.hok,A.sb,A.Z0,A.F.trans' F,A.T.congr fun b h1 h2=>F.same b (by have:=A.lt; omega) (by simp),F.get A.ok A.cs (by simp),A.hn0,A.hnT,A.lo⟩
theorem z0b4 (A:SwAt g0 h k s r c a g p q pa po pT n0 n1 n2 n3 n4 n5 t) (hB:r.Hs.length<=100000) {w:Int}{n i:Nat}{l:List Int} (hl:r.F[n]?=some l) (hi:i<l.length) (hn:r.node w c.h=(n:Int)) (hcn:c.n=(i:Int)) (gv ys:Bool) (hk:c.kind=3\/(c.kind=5/\ys=yesR r w c)) :
  Ev (S.zn W w (.ptr p 0) (.ptr q 0) (.ptr pa 0) (.ptr po 0) (r.node w c.h) gv ys (.ptr pT 0) g) (zml g0 h k (z0j r w c a) po pT):=by
 have hcl:=A.D.E.cl
 rw[hcn] at hcl
 have hcs:=A.cs
 have o1:=A.zg.f.slv.one
 have lN:=A.D.E.lN
 obtain⟨⟨v0,g1⟩,e1,rfl,F1⟩:=zi1 (k:=k) A.ok A.D.E.Z.h hB w c.x
 dsimp only at F1
 have A1:=A.fr F1
 obtain⟨bF,v,bi,kk,i1,l1,vb,i2,s2,hb,W⟩:=A1.T.f.set A1.ok hl hi (r.node w c.x)
 have hbF:bF<g.next:=by
  have:=(A1.T.f.blk bF (z0lw i1)).2
  have:=A.lt; have:=A.T.le; omega
 have l1':ldB (g.get bF) n=some v:=by rw[<-F1.same bF hbF (by simp)]; exact l1
 have hcl1:=A1.D.E.cl
 rw[hcn] at hcl1
 have hcs1:=A1.cs
 have fin:=A1.setF (l:=l) (val:=r.node w c.x) hb W
 have hbt:=A.zg.f.slv.beq
 rcases hk with hk | ⟨hk,hy⟩
 ·have hd:z0j r w c a={ r with F:=r.F.modify n fun l=>l.set i (r.node w c.x) }:=by
   unfold z0j RSt.setF
   rw[hk,hn,hcn]; simp
  rw[hd,hn]
  rw[hk] at hcl hcl1
  simp only[S.zn,zw_,S.z16,S.z0w,S.z0r,S.z0t,S.zdv,S.z9t,S.zcb,S.za2,Nat.reduceAdd,Nat.reduceLeDiff,Int.reduceEq,V.beq,hcl,hcs,o1,i1,l1',lN,e1,hcl1,hcs1,l1,vb,hbt,i2,s2]
  exact Ev.some fin
 ·cases hyy:ys with
  | true =>
   have hd:z0j r w c a={ r with F:=r.F.modify n fun l=>l.set i (r.node w c.x) }:=by
    unfold z0j RSt.setF
    rw[<-hy,hyy,hk,hn,hcn]; simp
   rw[hd,hn]
   rw[hk] at hcl hcl1
   simp only[S.zn,zw_,S.z16,S.z0w,S.z0r,S.z0t,S.zdv,S.z9t,S.zcb,S.za2,Nat.reduceAdd,Nat.reduceLeDiff,Int.reduceEq,V.beq,hcl,hcs,o1,i1,l1',lN,e1,hcl1,hcs1,l1,vb,hbt,i2,s2]
   exact Ev.some fin
  | false =>
   have hd:z0j r w c a=r:=by
    unfold z0j
    rw[<-hy,hyy,hk]; simp
   rw[hd]
   rw[hk] at hcl hcl1
   simp only[S.zn,zw_,S.z16,S.z0w,S.z0r,S.z0t,S.zdv,S.z9t,S.zcb,S.za2,Nat.reduceAdd,Int.reduceEq,hcl]
   exact Ev.some A.keep
theorem z0l6 (A:SwAt g0 h k s r c a g p q pa po pT n0 n1 n2 n3 n4 n5 t) (hk:c.kind=7) {w nh:Int} (gv ys:Bool) :
  Ev (S.zn W w (.ptr p 0) (.ptr q 0) (.ptr pa 0) (.ptr po 0) nh gv ys (.ptr pT 0) g) (zml g0 h k (z0j r w c a) po pT):=by
 have hd:z0j r w c a=r:=by unfold z0j; rw[hk]; simp
 rw[hd]
 have hcl:=A.D.E.cl
 rw[hk] at hcl
 simp only[S.zn,zw_,S.z16,S.z0w,S.z0r,S.z0t,Nat.reduceAdd,Int.reduceEq,hcl]
 exact Ev.some A.keep
theorem z0ip (A:SwAt g0 h k s r c a g p q pa po pT n0 n1 n2 n3 n4 n5 t) (hk:c.kind=10) {w nh:Int}{j:Nat} (hw:w=(j:Int)) (h1:j<r.Wk.length) (h2:j<r.Cm.length) (gv ys:Bool) :
  Ev (S.zn W w (.ptr p 0) (.ptr q 0) (.ptr pa 0) (.ptr po 0) nh gv ys (.ptr pT 0) g) (zml g0 h k (z0j r w c a) po pT):=by
 have hd:z0j r w c a={ r with Wk:=r.Wk.set j 0,Cm:=r.Cm.set j [] }:=by
  unfold z0j; rw[hk,hw]; simp
 rw[hd]
 have hcl:=A.D.E.cl
 rw[hk] at hcl
 have hcs:=A.cs
 have le:=A.T.le
 have lt:=A.lt
 have lo:=A.lo
 obtain⟨vs,hc,hcl2,hcr⟩:=A.T.c
 obtain⟨bw,i1,s1,m1,b1,W1⟩:=A.T.w.set1 A.ok (i:=j) (by rw[List.length_map]; exact h1) (v:=.int .u64 0) rfl
 have hbw:=A.T.wb bw m1
 rw[z00h] at s1 W1
 have F1:Fr [bw] g (g.put bw (some (.cells ((r.Wk.set j 0).map (.int .u64)) (.gr 1)))):=(Fr.refl A.ok).put (.inl (by simp)) b1 _
 have hc1:=hc.fr A.ok F1 (fun b hb hb2=>by
  simp only[List.mem_singleton] at hb2
  have:=A.T.cb b hb; omega)
 obtain⟨bc,i2,s2,m2,b2,W2⟩:=hc1.set1 F1.ok (i:=j) (by omega) (v:=.nilsl) rfl
 have hbc:=A.T.cb bc m2
 have F2:Fr [bc] (g.put bw (some (.cells ((r.Wk.set j 0).map (.int .u64)) (.gr 1)))) ((g.put bw (some (.cells ((r.Wk.set j 0).map (.int .u64)) (.gr 1)))).put bc (some (.cells (vs.set j .nilsl) (.gr 1)))):=(Fr.refl F1.ok).put (.inl (by simp)) b2 _
 have o3:=A.zg.w.slv.one
 have o4:=A.zg.c.slv.one
 have hbne:¬bc=bw:=by omega
 have hpne:¬pT=bw:=by omega
 have s2':stB (g.get bc) j [V.nilsl]=some (.cells (vs.set j .nilsl) (.gr 1)):=by
  rw[zf (by omega)] at s2; exact s2
 subst hw
 have same:∀b,b≠bw->b≠bc->((g.put bw (some (.cells ((r.Wk.set j 0).map (.int .u64)) (.gr 1)))).put bc (some (.cells (vs.set j .nilsl) (.gr 1)))).get b=g.get b:=fun b h1 h2=>by
  rw[zf h2,zf h1]
 simp only[S.zn,zw_,S.z16,S.z0w,S.z0r,S.z0t,Nat.reduceAdd,Nat.reduceLeDiff,Int.reduceEq,hcl,hcs,o3,o4,i1,s1,hpne,i2,hbne,s2']
 obtain⟨cs,u1,u2⟩:=A.D.ou
 refine Ev.some ⟨rfl,rfl,t,by rw[same _ (by omega) (by omega)]; exact A.cs,(A.F.trans F1 (fun b hb=>.inr (by simp only[List.mem_singleton] at hb; omega))).trans F2 (fun b hb=>.inr (by simp only[List.mem_singleton] at hb; omega)),⟨A.fw fun b h1 h2=>same b (by omega) (by omega),A.hw fun b h1 h2=>same b (by omega) (by omega),?_,?_,A.gw fun b h1 h2=>same b (by omega) (by omega)⟩,⟨cs,by rw[same _ (by omega) (by omega)]; exact u1,u2⟩⟩
 ·exact(W1.congr fun b hb=>by
   have:=A.T.wb b hb
   rw[z6w (by omega),zf (by omega)]).rowO
 ·refine(W2.congr fun b hb=>by
   have:=A.T.cb b hb
   exact z6w (by omega)).rowsO (by rw[List.length_set,List.length_set]; exact hcl2) fun i v l e1 e2 => ?_
  rcases zkv e1 with ⟨rfl,rfl⟩ | ⟨ne,e1⟩
  ·rcases zkv e2 with ⟨_,rfl⟩ | ⟨ne,_⟩
   ·exact .inl ⟨rfl,rfl⟩
   ·exact absurd rfl ne
  ·rcases zkv e2 with ⟨e,_⟩ | ⟨_,e2⟩
   ·exact absurd e ne
   ·exact(hcr i v l e1 e2).sub (z02f A.sb A.hok _)
end
theorem Sub.ldB {g g':Nat->Option Blk} (s:Sub g g') {b o:Nat}{v:V} (e:ldB (g b) o=some v):ldB (g' b) o=some v:=by
 cases hb:g b with
 | none=>rw[hb] at e; cases e
 | some blk=>rw[s _ _ hb,<-hb]; exact e
section
variable {g0:Nat->Option Blk}{h:H}{k:Cfg}{s:StV}{r:RSt}{c:CallR}{a:AnsR}{g:H}{p q pa po pT n0 n1 n2 n3 n4 n5:Nat}{t:StV}
structure GvAt (g0:Nat->Option Blk) (h:H) (k:Cfg) (s:StV) (r:RSt) (c:CallR) (a:AnsR) (g g2:H) (p q pa po pT n0 n1 n2 n3 n4 n5:Nat) (t:StV) (xh xg:V) (r':RSt):Prop where
 F:Fr [] h g2
 cs:g2.get pT=some (.cells [.int .i64 k.s,.int .i64 k.a,.int .i64 k.c,.int .i64 k.hd,.int .i64 k.g,.int .i64 k.st,t.f,xh,t.w,t.c,xg] .rw)
 old:∀b,b<n0->g2.get b=g.get b
 f:∀b,n0<=b->b<n1->g2.get b=g.get b
 wc:∀b,n2<=b->b<n4->g2.get b=g.get b
 h:RowHo g2.get xh r'.Hs
 gv:RowO .u64 g2.get xg r'.Gv
 hb:∀b∈xh.blk,g.next<=b
 gb:∀b∈xg.blk,g.next<=b
 le:g.next<=g2.next
theorem SwAt.give (A:SwAt g0 h k s r c a g p q pa po pT n0 n1 n2 n3 n4 n5 t) (B:r.small) (w hh n:Int) :
  ∃xh xg g1,C 277 [t.v k,.int .i64 w,.int .u64 hh,.int .i64 n] g=some ((⟨t.f,xh,t.w,t.c,xg⟩:StV).v k,g1)/\g1.get pT=some (.cells [.int .i64 k.s,.int .i64 k.a,.int .i64 k.c,.int .i64 k.hd,.int .i64 k.g,.int .i64 k.st,t.f,t.h,t.w,t.c,t.g] .rw)/\xh.one=true/\xg.one=true /\
   GvAt g0 h k s r c a g (g1.put pT (some (.cells [.int .i64 k.s,.int .i64 k.a,.int .i64 k.c,.int .i64 k.hd,.int .i64 k.g,.int .i64 k.st,t.f,xh,t.w,t.c,xg] .rw))) p q pa po pT n0 n1 n2 n3 n4 n5 t xh xg (r.gives w hh n):=by
 have Z:=A.zg
 have le:=A.T.le
 have lt:=A.lt
 have th:=A.T.hb
 have tg:=A.T.gb
 obtain⟨⟨v,g1⟩,e1,xh,xg,rfl,F1,H1,G1,bh,bg⟩:=z09i (k:=k) A.ok (t:=t) (r:=r) Z.f.slv.one Z.w.slv.one Z.c.slv.one A.T.h A.T.g (fun b h1 h2=>by have:=th b h1; have:=tg b h2; omega) B.g B.h w hh n
 dsimp only at F1 H1 G1
 have L1:∀b∈t.h.blk ++ t.g.blk,n0<=b/\((n1<=b/\b<n2)\/(n4<=b/\b<n5)):=fun b hb=>by
  rcases List.mem_append.mp hb with q | q
  ·have:=th b q; omega
  ·have:=tg b q; omega
 have hpT1:g1.get pT=g.get pT:=F1.same pT lt.2.1 fun q=>by have:=(L1 _ q).2; omega
 have hcs1:=hpT1.trans A.cs
 have Fp:Fr [pT] g1 (g1.put pT (some (.cells [.int .i64 k.s,.int .i64 k.a,.int .i64 k.c,.int .i64 k.hd,.int .i64 k.g,.int .i64 k.st,t.f,xh,t.w,t.c,xg] .rw))):=(Fr.refl F1.ok).put (.inl (by simp)) (F1.ok.lt hcs1) _
 refine⟨xh,xg,g1,e1,hcs1,H1.slv.one,G1.slv.one,⟨(A.F.trans F1 (fun b hb=>.inr (by have:=L1 b hb; omega))).trans Fp (fun b hb=>.inr (by simp only[List.mem_singleton] at hb; omega)),zq _ _ _,fun b hb => ?_,fun b h1 h2 => ?_,fun b h1 h2 => ?_,?_,?_,bh,bg,F1.le⟩⟩
 ·rw[zf (by omega)]; exact F1.same b (by omega) fun q=>by have:=(L1 _ q).1; omega
 ·rw[zf (by omega)]; exact F1.same b (by omega) fun q=>by have:=(L1 _ q).2; omega
 ·rw[zf (by omega)]; exact F1.same b (by omega) fun q=>by have:=(L1 _ q).2; omega
 ·exact H1.congr fun b hb=>zf (by have:=bh b hb; omega)
 ·exact G1.congr fun b hb=>zf (by have:=bg b hb; omega)
theorem GvAt.out {xh xg:V}{g2:H}{r':RSt} (A:SwAt g0 h k s r c a g p q pa po pT n0 n1 n2 n3 n4 n5 t) (V:GvAt g0 h k s r c a g g2 p q pa po pT n0 n1 n2 n3 n4 n5 t xh xg r') (hF:r'.F=r.F) (hW:r'.Wk=r.Wk) (hC:r'.Cm=r.Cm) :
  zml g0 h k r' po pT (.normal,S.z04 (.ptr po 0) (.ptr pT 0),g2):=by
 have le:=A.T.le
 have lt:=A.lt
 have lo:=A.lo
 obtain⟨cs,u1,u2⟩:=A.D.ou
 have hge:=A.F.le
 refine⟨rfl,rfl,⟨t.f,xh,t.w,t.c,xg⟩,V.cs,V.F,⟨?_,?_,?_,?_,?_⟩,⟨cs,by dsimp only; rw[V.old po (by omega)]; exact u1,u2⟩⟩
 ·rw[hF]; exact A.fw V.f
 ·exact V.h.congr fun b hb=>z6w (by have:=V.hb b hb; omega)
 ·rw[hW]; exact A.ww fun b h1 h2=>V.wc b h1 (by omega)
 ·rw[hC]; exact A.cw fun b h1 h2=>V.wc b (by omega) h2
 ·exact V.gv.congr fun b hb=>z6w (by have:=V.gb b hb; omega)
theorem z0k6 (A:SwAt g0 h k s r c a g p q pa po pT n0 n1 n2 n3 n4 n5 t) (B:r.small) (hk:c.kind=2) {w:Int}{n i:Nat}{l:List Int} (hl:r.F[n]?=some l) (hi:i<l.length) (hn:r.node w c.h=(n:Int)) (hcn:c.n=(i:Int)) (gv ys:Bool) (hg:gv=z25 r w c) :
  Ev (S.zn W w (.ptr p 0) (.ptr q 0) (.ptr pa 0) (.ptr po 0) (r.node w c.h) gv ys (.ptr pT 0) g) (zml g0 h k (z0j r w c a) po pT):=by
 have hcl:=A.D.E.cl
 rw[hk,hcn] at hcl
 cases hgg:gv with
 | false =>
  have hd:z0j r w c a=r:=by
   unfold z0j
   rw[<-hg,hgg,hk]; simp
  rw[hd]
  simp only[S.zn,zw_,Int.reduceEq,hcl]
  exact Ev.some A.keep
 | true =>
  have hd:z0j r w c a=r.gives w a.h (r.fat (r.node w c.h) c.n):=by
   unfold z0j
   rw[<-hg,hgg,hk]; simp
  have hfl:r.fl (r.node w c.h)=l:=by
   unfold RSt.fl; rw[hn,Int.toNat_natCast,hl]; rfl
  obtain⟨f,hf⟩:∃f,l[i]?=some f:=⟨_,List.getElem?_eq_getElem hi⟩
  have hfat:r.fat (r.node w c.h) c.n=f:=by
   unfold RSt.fat; rw[hfl,hcn,Int.toNat_natCast,hf]; rfl
  rw[hd,hn]
  rw[hn] at hfat
  rw[hfat]
  obtain⟨b,y,ix,ly,Y⟩:=A.D.E.Z.f.at hl
  obtain⟨b2,o2,i2,l2⟩:=Y.at hf
  have l6:=A.D.E.l6
  have hcs:=A.cs
  have han:=A.D.an
  have Z:=A.zg
  have z1:=Z.f.slv.one
  have z2:=Z.h.slv.one
  have z3:=Z.w.slv.one
  have z4:=Z.c.slv.one
  have z5:=Z.g.slv.one
  obtain⟨xh,xg,g1,e1,hcs1,oh,og,VV⟩:=A.give B w a.h f
  unfold StV.v at e1
  simp only[S.zn,zw_,Nat.reduceAdd,Nat.reduceLeDiff,Int.reduceEq,z07,reduceCtorEq,hcl,hcs,han,l6,ix,ly,i2,l2,e1,hcs1,z1,z3,z4,oh,og]
  exact Ev.some (VV.out A rfl rfl rfl)
theorem z0kc (A:SwAt g0 h k s r c a g p q pa po pT n0 n1 n2 n3 n4 n5 t) (B:r.small) (hk:c.kind=9) {w nh:Int}{j:Nat} (hw:w=(j:Int)) {x:Int}{xs:List Int} (hx:r.Cm[j]?=some (x :: xs)) (gv ys:Bool) :
  Ev (S.zn W w (.ptr p 0) (.ptr q 0) (.ptr pa 0) (.ptr po 0) nh gv ys (.ptr pT 0) g) (zml g0 h k (z0j r w c a) po pT):=by
 have hcl:=A.D.E.cl
 rw[hk] at hcl
 have hcome:r.come w=x :: xs:=by unfold RSt.come; rw[hw,Int.toNat_natCast,hx]; rfl
 have hd:z0j r w c a={ (r.gives w a.h x) with Cm:=r.Cm.set j xs }:=by
  unfold z0j
  rw[hcome,hk,hw]; simp
 rw[hd]
 have le:=A.T.le
 have lt:=A.lt
 have lo:=A.lo
 have hj:=z0a hx
 obtain⟨b,y,ix,ly,Y⟩:=A.Z0.c.at hx
 have hsb:=A.sb.fr0 A.hok A.F
 obtain⟨b2,o2,i2,l2⟩:=Y.at (i:=0) (w:=x) rfl
 obtain⟨y',sl,Y'⟩:=Y.tail
 have l9:=A.D.E.l9
 have hcs:=A.cs
 have han:=A.D.an
 have Z:=A.zg
 have z1:=Z.f.slv.one
 have z3:=Z.w.slv.one
 have z4:=Z.c.slv.one
 have z2:=Z.h.slv.one
 have z5:=Z.g.slv.one
 obtain⟨xh,xg,g1,e1,hcs1,oh,og,VV⟩:=A.give B w a.h x
 unfold StV.v at e1
 have hsb2:=A.sb.fr0 A.hok VV.F
 have ly1:=hsb.ldB ly
 have ly2:=hsb2.ldB ly
 have l21:=hsb.ldB l2
 have hp2:(g1.put pT (some (.cells [.int .i64 k.s,.int .i64 k.a,.int .i64 k.c,.int .i64 k.hd,.int .i64 k.g,.int .i64 k.st,t.f,xh,t.w,t.c,xg] .rw))).get p=g.get p:=VV.old p (by omega)
 have l92:ldB ((g1.put pT (some (.cells [.int .i64 k.s,.int .i64 k.a,.int .i64 k.c,.int .i64 k.hd,.int .i64 k.g,.int .i64 k.st,t.f,xh,t.w,t.c,xg] .rw))).get p) 9=some s.c:=by rw[hp2]; exact l9
 have hcs2:=VV.cs
 obtain⟨vs,hc,hcl2,hcr⟩:=A.T.c
 have hc2:Grown (g1.put pT (some (.cells [.int .i64 k.s,.int .i64 k.a,.int .i64 k.c,.int .i64 k.hd,.int .i64 k.g,.int .i64 k.st,t.f,xh,t.w,t.c,xg] .rw))).get t.c 1 vs:=hc.congr fun b hb=>by
  have:=A.T.cb b hb
  exact VV.wc b (by omega) this.2
 have oky':=Y'.slv
 have oy1:=oky'.one
 have oy2:=oky'.cells
 obtain⟨bc,i4,s4,m4,b4,W4⟩:=hc2.set1 VV.F.ok (i:=j) (by omega) (v:=y') oy1
 have hbc:=A.T.cb bc m4
 have hb0:b<h.next:=by
  cases hg:g0 b with
  | none=>rw[hg] at ly; cases ly
  | some blk=>exact A.sb.lt A.hok hg
 have nb:¬b=pT:=by omega
 have np:¬p=pT:=by omega
 have nbc:¬bc=pT:=by omega
 have l91:ldB (g1.get p) 9=some s.c:=by rw[zf np] at l92; exact l92
 have ly3:ldB (g1.get b) j=some y:=by rw[zf nb] at ly2; exact ly2
 have s41:stB (g1.get bc) j [y']=some (.cells (vs.set j y') (.gr 1)):=by rw[zf nbc] at s4; exact s4
 have i2:z0 1 y (.int .i64 0)=some (.ptr b2 o2):=i2
 subst hw
 simp only[S.zn,zw_,S.z16,S.z0w,S.z0r,S.z0t,Nat.reduceAdd,Nat.reduceLeDiff,Int.reduceEq,z07,reduceCtorEq,hcl,hcs,han,l9,ix,ly1,i2,l21,e1,hcs1,z1,z3,z4,oh,og,np,nb,nbc,l91,ly3,sl,i4,oy2,s41]
 generalize (g1.put pT (some (.cells [.int .i64 k.s,.int .i64 k.a,.int .i64 k.c,.int .i64 k.hd,.int .i64 k.g,.int .i64 k.st,t.f,xh,t.w,t.c,xg] .rw)))=g2 at VV hsb2 ly2 hp2 l92 hcs2 hc2 b4 s4 W4 ⊢
 have hge:=A.F.le
 obtain⟨cs,u1,u2⟩:=A.D.ou
 have Fp:Fr [bc] g2 (g2.put bc (some (.cells (vs.set j y') (.gr 1)))):=(Fr.refl VV.F.ok).put (.inl (by simp)) b4 _
 have hpo:(g2.put bc (some (.cells (vs.set j y') (.gr 1)))).get po=some (.cells cs .rw):=by
  rw[zf (by omega),VV.old po (by omega)]; exact u1
 refine Ev.some ⟨rfl,rfl,⟨t.f,xh,t.w,t.c,xg⟩,by rw[zf (by omega)]; exact hcs2,VV.F.trans Fp (fun b hb=>.inr (by simp only[List.mem_singleton] at hb; omega)),⟨?_,?_,?_,?_,?_⟩,⟨cs,hpo,u2⟩⟩
 ·exact A.fw fun b h1 h2=>by rw[zf (by omega)]; exact VV.f b h1 h2
 ·exact VV.h.congr fun b hb=>by have:=VV.hb b hb; rw[z6w (by omega),zf (by omega)]
 ·exact A.ww fun b h1 h2=>by rw[zf (by omega)]; exact VV.wc b h1 (by omega)
 ·refine(W4.congr fun b hb=>by
   have:=A.T.cb b hb
   exact z6w (by omega)).rowsO (by rw[List.length_set,List.length_set]; exact hcl2) fun i v l e1 e2 => ?_
  rcases zkv e1 with ⟨rfl,rfl⟩ | ⟨ne,e1⟩
  ·rcases zkv e2 with ⟨_,rfl⟩ | ⟨ne,_⟩
   ·exact Y'.sub (z02f A.sb A.hok _)
   ·exact absurd rfl ne
  ·rcases zkv e2 with ⟨e,_⟩ | ⟨_,e2⟩
   ·exact absurd e ne
   ·exact(hcr i v l e1 e2).sub (z02f A.sb A.hok _)
 ·exact VV.gv.congr fun b hb=>by have:=VV.gb b hb; rw[z6w (by omega),zf (by omega)]
end
theorem hs3 {n m:Nat} (h:n<=m) (hm:m<=100000):n * 3<=1000000:=by omega
section
variable {g0:Nat->Option Blk}{h:H}{k:Cfg}{s:StV}{r:RSt}{c:CallR}{a:AnsR}{g:H}{p q pa po pT n0 n1 n2 n3 n4 n5:Nat}{t:StV}
theorem z0k9 (A:SwAt g0 h k s r c a g p q pa po pT n0 n1 n2 n3 n4 n5 t) (I:RIn k r) (B:r.small) (hk:c.kind=8) {w:Int}{n j:Nat} (hw:w=(j:Int)) (h1:j<r.Wk.length) (h2:j<r.Cm.length) (hn:r.node w c.h=(n:Int)) (hnl:n<r.F.length) (gv ys:Bool) :
  Ev (S.zn W w (.ptr p 0) (.ptr q 0) (.ptr pa 0) (.ptr po 0) (r.node w c.h) gv ys (.ptr pT 0) g) (zml g0 h k (z0j r w c a) po pT):=by
 have hd:z0j r w c a={ r with Gv:=r.Gv ++ [a.h],Wk:=r.Wk.set j a.h,Cm:=r.Cm.set j (r.reached (n:Int)) }:=by
  unfold z0j; rw[hk,hn,hw]; simp
 rw[hd,hn]
 have hcl:=A.D.E.cl
 rw[hk] at hcl
 have hcs:=A.cs
 have han:=A.D.an
 have le:=A.T.le
 have lt:=A.lt
 have lo:=A.lo
 have hge:=A.F.le
 have Z:=A.zg
 have z1:=Z.f.slv.one
 have z2:=Z.h.slv.one
 have z3:=Z.w.slv.one
 have z4:=Z.c.slv.one
 have z5:=Z.g.slv.one
 -- what was given
 have Fa:Fr [] g (g.new (.cells [.int .u64 a.h] .rw)):=(Fr.refl A.ok).new _
 obtain⟨xg,g1,e1,F1,G1,bg,_⟩:=Grown.push Fa.ok (bytes:=8) (A.T.g.fr A.ok Fa (by simp)) (ze g _) (e:=1) rfl rfl (by decide) ⟨by decide,by decide⟩ (by rw[List.length_map]; have:=B.g; omega)
 have og:=G1.slv
 have og1:=og.one
 have og2:=og.cells
 have tg:=A.T.gb
 have bg':∀b∈xg.blk,g.next<=b:=fun b hb=>Nat.le_trans Fa.le (bg b hb)
 have F01:Fr t.g.blk g g1:=(Fa.mono (by simp)).trans' F1
 have hpT:pT∉t.g.blk:=fun q=>by have:=(tg _ q).2; omega
 have hcs1:=F01.get A.ok hcs hpT
 have F2:Fr [pT] g1 (g1.put pT (some (.cells [.int .i64 k.s,.int .i64 k.a,.int .i64 k.c,.int .i64 k.hd,.int .i64 k.g,.int .i64 k.st,t.f,t.h,t.w,t.c,xg] .rw))):=(Fr.refl F1.ok).put (.inl (by simp)) (F1.ok.lt hcs1) _
 have hcs2:=zq g1 pT (some (.cells [.int .i64 k.s,.int .i64 k.a,.int .i64 k.c,.int .i64 k.hd,.int .i64 k.g,.int .i64 k.st,t.f,t.h,t.w,t.c,xg] .rw))
 -- the walk
 have G2:Grown (g1.put pT (some (.cells [.int .i64 k.s,.int .i64 k.a,.int .i64 k.c,.int .i64 k.hd,.int .i64 k.g,.int .i64 k.st,t.f,t.h,t.w,t.c,xg] .rw))).get t.w 1 (r.Wk.map (.int .u64)):=A.T.w.congr fun b hb=>by
  have h1:=A.T.wb b hb
  rw[zf (by omega),F01.same b (by omega) (fun q=>by have:=tg b q; omega)]
 obtain⟨bw,i3,s3,m3,b3,W3⟩:=G2.set1 F2.ok (i:=j) (by rw[List.length_map]; exact h1) (v:=.int .u64 a.h) rfl
 rw[z00h] at s3 W3
 have hbw:=A.T.wb bw m3
 have nbw:¬bw=pT:=by omega
 have s31:stB (g1.get bw) j [V.int .u64 a.h]=some (.cells ((r.Wk.set j a.h).map (.int .u64)) (.gr 1)):=by rw[zf nbw] at s3; exact s3
 have F3:Fr [bw] (g1.put pT (some (.cells [.int .i64 k.s,.int .i64 k.a,.int .i64 k.c,.int .i64 k.hd,.int .i64 k.g,.int .i64 k.st,t.f,t.h,t.w,t.c,xg] .rw))) ((g1.put pT (some (.cells [.int .i64 k.s,.int .i64 k.a,.int .i64 k.c,.int .i64 k.hd,.int .i64 k.g,.int .i64 k.st,t.f,t.h,t.w,t.c,xg] .rw))).put bw (some (.cells ((r.Wk.set j a.h).map (.int .u64)) (.gr 1)))):=(Fr.refl F2.ok).put (.inl (by simp)) b3 _
 have F03:Fr [] h ((g1.put pT (some (.cells [.int .i64 k.s,.int .i64 k.a,.int .i64 k.c,.int .i64 k.hd,.int .i64 k.g,.int .i64 k.st,t.f,t.h,t.w,t.c,xg] .rw))).put bw (some (.cells ((r.Wk.set j a.h).map (.int .u64)) (.gr 1)))) :=
  ((A.F.trans F01 (fun b hb=>.inr (by have:=tg b hb; omega))).trans F2 (fun b hb=>.inr (by simp only[List.mem_singleton] at hb; omega))).trans F3 (fun b hb=>.inr (by simp only[List.mem_singleton] at hb; omega))
 have nwp:¬pT=bw:=fun e=>nbw e.symm
 have hcs3:((g1.put pT (some (.cells [.int .i64 k.s,.int .i64 k.a,.int .i64 k.c,.int .i64 k.hd,.int .i64 k.g,.int .i64 k.st,t.f,t.h,t.w,t.c,xg] .rw))).put bw (some (.cells ((r.Wk.set j a.h).map (.int .u64)) (.gr 1)))).get pT=some (.cells [.int .i64 k.s,.int .i64 k.a,.int .i64 k.c,.int .i64 k.hd,.int .i64 k.g,.int .i64 k.st,t.f,t.h,t.w,t.c,xg] .rw):=by rw[zf nwp]; exact hcs2
 -- what stands below is as it was
 have low:∀b,b<n0->((g1.put pT (some (.cells [.int .i64 k.s,.int .i64 k.a,.int .i64 k.c,.int .i64 k.hd,.int .i64 k.g,.int .i64 k.st,t.f,t.h,t.w,t.c,xg] .rw))).put bw (some (.cells ((r.Wk.set j a.h).map (.int .u64)) (.gr 1)))).get b=g.get b:=fun b hb=>by
  rw[zf (by omega),zf (by omega),F01.same b (by omega) (fun q=>by have:=tg b q; omega)]
 have lN3:ldNB (((g1.put pT (some (.cells [.int .i64 k.s,.int .i64 k.a,.int .i64 k.c,.int .i64 k.hd,.int .i64 k.g,.int .i64 k.st,t.f,t.h,t.w,t.c,xg] .rw))).put bw (some (.cells ((r.Wk.set j a.h).map (.int .u64)) (.gr 1)))).get p) 0 11=some (s.v k):=by rw[low p (by omega)]; exact A.D.E.lN
 have npa:¬pa=pT:=by omega
 have han1:g1.get pa=some (.cells [.int .i64 a.err,.int .u64 a.h,.bool a.yes] .rw):=F01.get A.ok han (fun q=>by have:=(tg _ q).1; omega)
 have npw:¬p=bw:=by omega
 have npT:¬p=pT:=by omega
 have lN1:ldNB (g1.get p) 0 11=some (s.v k):=by rw[zf npw,zf npT] at lN3; exact lN3
 have sb3:=A.sb.fr0 A.hok F03
 obtain⟨⟨v,g4⟩,e4,F4,R4,b4⟩:=z09m (k:=k) F03.ok (A.Z0.sub sb3) I B.f B.l hnl
 dsimp only at F4 R4 b4
 have ov:=R4.slv
 have ov1:=ov.one
 have ov2:=ov.cells
 have l31:=F01.le
 have hnx3:((g1.put pT (some (.cells [.int .i64 k.s,.int .i64 k.a,.int .i64 k.c,.int .i64 k.hd,.int .i64 k.g,.int .i64 k.st,t.f,t.h,t.w,t.c,xg] .rw))).put bw (some (.cells ((r.Wk.set j a.h).map (.int .u64)) (.gr 1)))).next=g1.next:=rfl
 have hcs4:=F4.get F03.ok hcs3 (by simp)
 have hct:=Z.c.slv.beq
 -- what is to come
 obtain⟨vs,hc,hcl2,hcr⟩:=A.T.c
 have G4:Grown g4.get t.c 1 vs:=hc.congr fun b hb=>by
  have h1:=A.T.cb b hb
  rw[F4.same b (by rw[hnx3]; omega) (by simp),zf (by omega),zf (by omega),F01.same b (by omega) (fun q=>by have:=tg b q; omega)]
 obtain⟨bc,i5,s5,m5,b5,W5⟩:=G4.set1 F4.ok (i:=j) (by omega) (v:=v) ov1
 have hbc:=A.T.cb bc m5
 subst hw
 simp only[S.zn,zw_,S.z16,S.z0w,S.z0r,S.z0t,Nat.reduceAdd,Nat.reduceLeDiff,Int.reduceEq,z07,reduceCtorEq,fill,repl,opd,hcl,hcs,han,z3,z4,z5,e1,og1,og2,hcs1,npa,han1,i3,nbw,s31,nwp,npw,npT,lN1,e4,hcs4,hct,i5,ov2,s5]
 have F5:Fr [bc] g4 (g4.put bc (some (.cells (vs.set j v) (.gr 1)))):=(Fr.refl F4.ok).put (.inl (by simp)) b5 _
 have l34:=F4.le
 rw[hnx3] at l34 b4
 obtain⟨cs,u1,u2⟩:=A.D.ou
 -- back to the beginning
 have back:∀b,b<g.next->b≠bc->b≠bw->b≠pT->b∉t.g.blk->(g4.put bc (some (.cells (vs.set j v) (.gr 1)))).get b=g.get b:=fun b h1 h2 h3 h4 h5=>by
  rw[zf h2,F4.same b (by rw[hnx3]; omega) (by simp),zf h3,zf h4,F01.same b h1 h5]
 refine Ev.some ⟨rfl,rfl,⟨t.f,t.h,t.w,t.c,xg⟩,by rw[zf (by omega)]; exact hcs4,(F03.trans' F4).trans F5 (fun b hb=>.inr (by simp only[List.mem_singleton] at hb; omega)),⟨?_,?_,?_,?_,?_⟩,⟨cs,by rw[back po (by omega) (by omega) (by omega) (by omega) (fun q=>by have:=tg _ q; omega)]; exact u1,u2⟩⟩
 ·exact A.fw fun b h1 h2=>back b (by omega) (by omega) (by omega) (by omega) fun q=>by have:=tg b q; omega
 ·exact A.hw fun b h1 h2=>back b (by omega) (by omega) (by omega) (by omega) fun q=>by have:=tg b q; omega
 ·refine(W3.congr fun b hb => ?_).rowO
  have:=A.T.wb b hb
  rw[z6w (by omega),zf (by omega),F4.same b (by rw[hnx3]; omega) (by simp)]
 ·refine(W5.congr fun b hb=>by
   have:=A.T.cb b hb
   exact z6w (by omega)).rowsO (by rw[List.length_set,List.length_set]; exact hcl2) fun i v l e1 e2 => ?_
  rcases zkv e1 with ⟨rfl,rfl⟩ | ⟨ne,e1⟩
  ·rcases zkv e2 with ⟨_,rfl⟩ | ⟨ne,_⟩
   ·exact R4.congr fun b hb=>by have:=b4 b hb; rw[z6w (by omega),zf (by omega)]
   ·exact absurd rfl ne
  ·rcases zkv e2 with ⟨e,_⟩ | ⟨_,e2⟩
   ·exact absurd e ne
   ·exact(hcr i v l e1 e2).sub (z02f A.sb A.hok _)
 ·have:Grown (ug g0 h (g4.put bc (some (.cells (vs.set j v) (.gr 1))))) xg 1 ((r.Gv ++ [a.h]).map (.int .u64)):=by
   rw[List.map_append]
   refine G1.congr fun b hb => ?_
   have h1:=bg' b hb
   have h2:=G1.lt F1.ok b hb
   rw[z6w (by omega),zf (by omega),F4.same b (by rw[hnx3]; omega) (by simp),zf (by omega),zf (by omega)]
  exact this.rowO
structure RlAt (k:Cfg) (r:RSt) (t:StV) (g1 g':H) (pT:Nat) (w ch:Int) (i:Nat) (x:V):Prop where
 fr:Fr [pT] g1 g'
 cs:g'.get pT=some (.cells [.int .i64 k.s,.int .i64 k.a,.int .i64 k.c,.int .i64 k.hd,.int .i64 k.g,.int .i64 k.st,t.f,x,t.w,t.c,t.g] .rw)
 h:Grown g'.get x 3 (((r.Hs.take i).filter fun y=>!(y.is w ch)).map HoldR.cs).flatten
 b:∀b∈x.blk,g1.next<=b
theorem z0l4 (A:SwAt g0 h k s r c a g p q pa po pT n0 n1 n2 n3 n4 n5 t) (B:r.small) (hk:c.kind=6) {w nh:Int} (gv ys:Bool) :
  Ev (S.zn W w (.ptr p 0) (.ptr q 0) (.ptr pa 0) (.ptr po 0) nh gv ys (.ptr pT 0) g) (zml g0 h k (z0j r w c a) po pT):=by
 have hd:z0j r w c a={ r with Hs:=r.Hs.filter fun x=>!(x.is w c.h) }:=by
  unfold z0j; rw[hk]; simp
 rw[hd]
 have hcl:=A.D.E.cl
 rw[hk] at hcl
 have hcs:=A.cs
 have le:=A.T.le
 have lt:=A.lt
 have lo:=A.lo
 have hge:=A.F.le
 have Z:=A.zg
 have z1:=Z.f.slv.one
 have z2:=Z.h.slv.one
 have z3:=Z.w.slv.one
 have z4:=Z.c.slv.one
 have z5:=Z.g.slv.one
 have F1:Fr [pT] g (g.put pT (some (.cells [.int .i64 k.s,.int .i64 k.a,.int .i64 k.c,.int .i64 k.hd,.int .i64 k.g,.int .i64 k.st,t.f,.nilsl,t.w,t.c,t.g] .rw))):=(Fr.refl A.ok).put (.inl (by simp)) lt.2.1 _
 have hcs1:=zq g pT (some (.cells [.int .i64 k.s,.int .i64 k.a,.int .i64 k.c,.int .i64 k.hd,.int .i64 k.g,.int .i64 k.st,t.f,.nilsl,t.w,t.c,t.g] .rw))
 have hnx:(g.put pT (some (.cells [.int .i64 k.s,.int .i64 k.a,.int .i64 k.c,.int .i64 k.hd,.int .i64 k.g,.int .i64 k.st,t.f,.nilsl,t.w,t.c,t.g] .rw))).next=g.next:=rfl
 simp only[S.zn,zw_,S.z16,S.z0w,S.z0r,S.z0t,Nat.reduceAdd,Nat.reduceLeDiff,Int.reduceEq,z07,reduceCtorEq,hcl,hcs]
 generalize (g.put pT (some (.cells [.int .i64 k.s,.int .i64 k.a,.int .i64 k.c,.int .i64 k.hd,.int .i64 k.g,.int .i64 k.st,t.f,.nilsl,t.w,t.c,t.g] .rw)))=g1 at F1 hcs1 hnx ⊢
 have R0:RlAt k r t g1 g1 pT w c.h 0 .nilsl:=⟨.refl F1.ok,hcs1,Grown.nil _ _,by simp[V.blk]⟩
 refine z0f (α:=Nat × V) (fun z=>S.z6v (.int .i64 w) (.ptr p 0) (.ptr q 0) (.ptr po 0) (.ptr pT 0) (.int .i64 (z.1:Nat)))
  (fun z g'=>z.1<=r.Hs.length/\RlAt k r t g1 g' pT w c.h z.1 z.2) (fun z _=>r.Hs.length-z.1)
  (fun z=>z.1=.exit 3/\z.2.1=S.zf4 (.ptr po 0) (.ptr pT 0)/\∃x,RlAt k r t g1 z.2.2 pT w c.h r.Hs.length x) (0,.nilsl) rfl ⟨Nat.zero_le _,R0⟩ ?_ ?_
 rotate_left
 ·rintro⟨_,_,g'⟩ ⟨rfl,rfl,x,R⟩
  show Ev (S.zgx W (.exit 3) _ _) _
  rw[S.zrr]
  dsimp only at R
  have RF:=R.fr
  have Rh:=R.h
  rw[List.take_length] at Rh
  have hfr:Fr [pT] g g':=F1.trans' RF
  have back:∀b,b<n5->g'.get b=g.get b:=fun b hb=>hfr.same b (by omega) (by simp only[List.mem_singleton]; omega)
  obtain⟨cs,u1,u2⟩:=A.D.ou
  refine Ev.some ⟨rfl,rfl,⟨t.f,x,t.w,t.c,t.g⟩,R.cs,A.F.trans hfr (fun b hb=>.inr (by simp only[List.mem_singleton] at hb; omega)),⟨A.fw fun b h1 h2=>back b (by omega),?_,A.ww fun b h1 h2=>back b (by omega),A.cw fun b h1 h2=>back b (by omega),A.gw fun b h1 h2=>back b (by omega)⟩,⟨cs,by rw[back po (by omega)]; exact u1,u2⟩⟩
  exact(Rh.congr fun b hb=>z6w (by have:=R.b b hb; omega)).rowH
 rintro⟨i,x⟩ g' ⟨hi,R⟩
 dsimp only at hi R ⊢
 rw[S.zv2]
 have RF:=R.fr
 have hfr:Fr [pT] g g':=F1.trans' RF
 have hle1:=RF.le
 have hst:g'.get p=g.get p:=hfr.same p (by omega) (by simp only[List.mem_singleton]; omega)
 have hstq:g'.get q=g.get q:=hfr.same q (by omega) (by simp only[List.mem_singleton]; omega)
 have l7:ldB (g'.get p) 7=some s.h:=by rw[hst]; exact A.D.E.l7
 have hcl':=hstq.trans hcl
 have sb':=(A.sb.fr0 A.hok (A.F.trans hfr (fun b hb=>.inr (by simp only[List.mem_singleton] at hb; omega))))
 have Zh:=A.Z0.h.sub sb'
 have hlen:=Zh.len
 have hcs':=R.cs
 by_cases hin:i<r.Hs.length
 rotate_left
 ·have hie:i=r.Hs.length:=by omega
  subst hie
  have d:decide ((r.Hs.length:Int)<(r.Hs.length:Int))=false:=decide_eq_false (Int.lt_irrefl _)
  simp only[S.z6t,zw_,l7,hlen,d]
  exact Ev.some (.inr ⟨by simp,rfl,rfl,x,R⟩)
 obtain⟨y,hy⟩:∃y,r.Hs[i]?=some y:=⟨_,List.getElem?_eq_getElem hin⟩
 have d:decide ((i:Int)<(r.Hs.length:Int))=true:=zll hin
 obtain⟨b,ix,y0,y1,y2,yN⟩:=Zh.at hy
 have wi:=znz (i:=i) (by have:=B.h; omega)
 have htk:r.Hs.take (i+1)=r.Hs.take i ++ [y]:=by rw[List.take_succ,hy]; rfl
 -- kept
 have keep:(!(y.is w c.h))=true->∃x' g2,(g'.new (.cells [.int .i64 y.c,.int .u64 y.h,.int .i64 y.n] .rw)).append 3 24 x (.sl g'.next 0 1 (.ex 1))=some (x',g2)/\g2.get pT=some (.cells [.int .i64 k.s,.int .i64 k.a,.int .i64 k.c,.int .i64 k.hd,.int .i64 k.g,.int .i64 k.st,t.f,x,t.w,t.c,t.g] .rw)/\x'.one=true/\x'.cells=[x'] /\
   RlAt k r t g1 (g2.put pT (some (.cells [.int .i64 k.s,.int .i64 k.a,.int .i64 k.c,.int .i64 k.hd,.int .i64 k.g,.int .i64 k.st,t.f,x',t.w,t.c,t.g] .rw))) pT w c.h (i+1) x':=by
  intro hb
  have Fb:Fr [] g' (g'.new (.cells [.int .i64 y.c,.int .u64 y.h,.int .i64 y.n] .rw)):=(Fr.refl RF.ok).new _
  have hfl:(((r.Hs.take i).filter fun y=>!(y.is w c.h)).map HoldR.cs).flatten.length<=1000000:=by
   rw[zc7 (z03u _),List.length_map]
   exact hs3 (Nat.le_trans (List.length_filter_le _ _) (by rw[List.length_take]; exact Nat.min_le_right _ _)) B.h
  obtain⟨x',g2,e2,F2,G2,b2,_⟩:=Grown.push Fb.ok (bytes:=24) (R.h.fr RF.ok Fb (by simp)) (ze g' _) (e:=3) rfl rfl (by decide) ⟨by decide,by decide⟩ hfl
  have hpx:pT∉x.blk:=fun q=>by have:=R.b _ q; omega
  have hcs2:=F2.get Fb.ok (Fb.get RF.ok hcs' (by simp)) hpx
  have hlt2:=F2.ok.lt hcs2
  have hb2:∀b∈x'.blk,g'.next<=b:=fun b hb=>Nat.le_trans Fb.le (b2 b hb)
  refine⟨x',g2,e2,hcs2,G2.slv.one,G2.slv.cells,⟨?_,zq _ _ _,?_,fun b hb=>Nat.le_trans hle1 (hb2 b hb)⟩⟩
  ·exact((RF.trans Fb (by simp)).trans F2 (fun b hb=>.inr (R.b b hb))).put (.inl (by simp)) hlt2 _
  ·have:Grown g2.get x' 3 (((r.Hs.take (i+1)).filter fun y=>!(y.is w c.h)).map HoldR.cs).flatten:=by
    rw[htk,List.filter_append,List.map_append,List.flatten_append]
    have:[y].filter (fun y=>!(y.is w c.h))=[y]:=by simp only[List.filter_cons,hb,if_true,List.filter_nil]
    rw[this]
    simp only[List.map_cons,List.map_nil,List.flatten_cons,List.flatten_nil,List.append_nil]
    exact G2
   exact this.congr fun b hb=>zf (by have:=hb2 b hb; omega)
 have skip:(!(y.is w c.h))=false->RlAt k r t g1 g' pT w c.h (i+1) x:=fun hb=>by
  refine⟨R.fr,R.cs,?_,R.b⟩
  rw[htk,List.filter_append]
  have:[y].filter (fun y=>!(y.is w c.h))=[]:=by simp only[List.filter_cons,hb,List.filter_nil]; rfl
  rw[this,List.append_nil]
  exact R.h
 have zx:=R.h.slv.one
 have hyc:y.cs=[.int .i64 y.c,.int .u64 y.h,.int .i64 y.n]:=rfl
 rw[hyc] at yN
 cases dc:decide (y.c=w) with
 | false =>
  have hb:(!(y.is w c.h))=true:=by unfold HoldR.is; rw[dc]; rfl
  obtain⟨x',g2,e2,hcs2,ox1,ox2,R'⟩:=keep hb
  simp only[S.z6t,zw_,S.ze8,S.z9m,S.zcg,S.za1,Nat.reduceAdd,Nat.reduceLeDiff,z07,reduceCtorEq,fill,repl,opd,l7,hlen,d,ix,y0,dc,hcs',zx,yN,e2,hcs2,ox1,ox2,wi]
  exact Ev.some (.inl ⟨(i+1,x'),rfl,rfl,⟨hin,R'⟩,Nat.sub_lt_sub_left hin (Nat.lt_succ_self i)⟩)
 | true =>
  cases dh:decide (y.h=c.h) with
  | false =>
   have hb:(!(y.is w c.h))=true:=by unfold HoldR.is; rw[dc,dh]; rfl
   obtain⟨x',g2,e2,hcs2,ox1,ox2,R'⟩:=keep hb
   simp only[S.z6t,zw_,S.ze8,S.z9m,S.zcg,S.za1,Nat.reduceAdd,Nat.reduceLeDiff,z07,reduceCtorEq,fill,repl,opd,l7,hlen,d,ix,y0,y1,dc,hcl',dh,hcs',zx,yN,e2,hcs2,ox1,ox2,wi]
   exact Ev.some (.inl ⟨(i+1,x'),rfl,rfl,⟨hin,R'⟩,Nat.sub_lt_sub_left hin (Nat.lt_succ_self i)⟩)
  | true =>
   have hb:(!(y.is w c.h))=false:=by unfold HoldR.is; rw[dc,dh]; rfl
   simp only[S.z6t,zw_,S.ze8,S.z9m,S.zcg,S.za1,l7,hlen,d,ix,y0,y1,dc,hcl',dh,wi]
   exact Ev.some (.inl ⟨(i+1,x),rfl,rfl,⟨hin,skip hb⟩,Nat.sub_lt_sub_left hin (Nat.lt_succ_self i)⟩)
end
def z5w (i n:Nat):List Int:=List.replicate i (-1) ++ List.replicate (n-i) 0
theorem z013 {i n:Nat} (h:i<=n):(z5w i n).length=n:=by unfold z5w; rw[List.length_append,List.length_replicate,List.length_replicate]; omega
theorem z0jf {i n:Nat} (h:i<n):(z5w i n).set i (-1)=z5w (i+1) n:=by
 unfold z5w
 rw[List.set_append_right _ _ (by rw[List.length_replicate]; omega),List.length_replicate,Nat.sub_self]
 have:n-i=(n-(i+1))+1:=by omega
 rw[this,List.replicate_succ,List.set_cons_zero,List.replicate_succ',List.append_assoc]; rfl
theorem z0by (n:Nat):z5w n n=List.replicate n (-1):=by unfold z5w; rw[Nat.sub_self,List.replicate_zero,List.append_nil]
theorem z0b3 (n:Nat):repl [V.int .i64 0] n=(z5w 0 n).map (.int .i64):=by
 unfold z5w
 rw[Nat.sub_zero,List.replicate_zero,List.nil_append]
 induction n with
 | zero=>rfl
 | succ n ih=>simp only[repl,ih,List.replicate_succ,List.map_cons,List.cons_append,List.nil_append]
section
variable {g0:Nat->Option Blk}{h:H}{k:Cfg}{s:StV}{r:RSt}{c:CallR}{a:AnsR}{g:H}{p q pa po pT n0 n1 n2 n3 n4 n5:Nat}{t:StV}
theorem z0ls (A:SwAt g0 h k s r c a g p q pa po pT n0 n1 n2 n3 n4 n5 t) (B:r.small) {w:Int}{n:Nat}{g2:H} (F:Fr [] g g2) {b1:Nat}{c1:Cap} (hb1:g.next<=b1) (hg1:g2.get b1=some (.cells ((List.replicate n (-1)).map (.int .i64)) .rw)) (hc1:c1=.ex n) :
  Ev (S.ze9 W w (.ptr pa 0) (.ptr po 0) (.ptr pT 0) (.sl b1 0 n c1) g2) (zml g0 h k (({ r with F:=r.F ++ [List.replicate n (-1)] }:RSt).gives w a.h r.F.length) po pT):=by
 subst hc1
 have A2:=A.fr F
 have hcs:=A2.cs
 have han:=A2.D.an
 have le:=A.T.le
 have lt:=A.lt
 have lo:=A.lo
 have hge:=A.F.le
 have Z:=A2.zg
 have z1:=Z.f.slv.one
 have z2:=Z.h.slv.one
 have z3:=Z.w.slv.one
 have z4:=Z.c.slv.one
 have z5:=Z.g.slv.one
 have hF:=F.le
 obtain⟨vs,g3,e3,F3,hn3,hvl,hvr,hx3⟩:=A2.T.f.push2 A2.ok (v:=.sl b1 0 n (.ex n)) rfl B.f
 have tf:=A2.T.f.blk
 have th:=A2.T.hb
 have tg:=A2.T.gb
 have hpT:pT∉t.f.blk:=fun q=>by have:=(tf _ q).2; omega
 have hcs3:=F3.get A2.ok hcs hpT
 have F4:Fr [pT] g3 (g3.put pT (some (.cells [.int .i64 k.s,.int .i64 k.a,.int .i64 k.c,.int .i64 k.hd,.int .i64 k.g,.int .i64 k.st,.sl (g2.next+1) 0 (r.F.length+1) (.op 1),t.h,t.w,t.c,t.g] .rw))):=(Fr.refl F3.ok).put (.inl (by simp)) (F3.ok.lt hcs3) _
 have hcs4:=zq g3 pT (some (.cells [.int .i64 k.s,.int .i64 k.a,.int .i64 k.c,.int .i64 k.hd,.int .i64 k.g,.int .i64 k.st,.sl (g2.next+1) 0 (r.F.length+1) (.op 1),t.h,t.w,t.c,t.g] .rw))
 have npa:¬pa=pT:=by omega
 have han3:=F3.get A2.ok han (fun q=>by have:=(tf _ q).1; omega)
 have hl3:=F3.ok.lt hn3
 have F24:Fr (t.f.blk ++ [pT]) g2 (g3.put pT (some (.cells [.int .i64 k.s,.int .i64 k.a,.int .i64 k.c,.int .i64 k.hd,.int .i64 k.g,.int .i64 k.st,.sl (g2.next+1) 0 (r.F.length+1) (.op 1),t.h,t.w,t.c,t.g] .rw))) :=
  (F3.mono (L':=t.f.blk ++ [pT]) (fun b hb=>.inl (List.mem_append_left _ hb))).trans F4 (fun b hb=>.inl (List.mem_append_right _ hb))
 have Gh:Grown (g3.put pT (some (.cells [.int .i64 k.s,.int .i64 k.a,.int .i64 k.c,.int .i64 k.hd,.int .i64 k.g,.int .i64 k.st,.sl (g2.next+1) 0 (r.F.length+1) (.op 1),t.h,t.w,t.c,t.g] .rw))).get t.h 3 (r.Hs.map HoldR.cs).flatten:=A2.T.h.fr A2.ok F24 (fun b hb hb2=>by
  have:=th b hb
  rcases List.mem_append.mp hb2 with q | q
  ·have:=tf b q; omega
  ·simp only[List.mem_singleton] at q; omega)
 have Gg:Grown (g3.put pT (some (.cells [.int .i64 k.s,.int .i64 k.a,.int .i64 k.c,.int .i64 k.hd,.int .i64 k.g,.int .i64 k.st,.sl (g2.next+1) 0 (r.F.length+1) (.op 1),t.h,t.w,t.c,t.g] .rw))).get t.g 1 (r.Gv.map (.int .u64)):=A2.T.g.fr A2.ok F24 (fun b hb hb2=>by
  have:=tg b hb
  rcases List.mem_append.mp hb2 with q | q
  ·have:=tf b q; omega
  ·simp only[List.mem_singleton] at q; omega)
 obtain⟨⟨v,g5⟩,e5,xh,xg,rfl,F5,H5,G5,bh,bg⟩:=z09i (k:=k) F4.ok (t:=⟨.sl (g2.next+1) 0 (r.F.length+1) (.op 1),t.h,t.w,t.c,t.g⟩) (r:=r) rfl z3 z4 Gh Gg (fun b h1 h2=>by have:=th b h1; have:=tg b h2; omega) B.g B.h w a.h (r.F.length:Nat)
 dsimp only at F5 H5 G5 bh bg
 unfold StV.v at e5
 have L5:∀b∈t.h.blk ++ t.g.blk,n1<=b/\b<n5:=fun b hb=>by
  rcases List.mem_append.mp hb with q | q
  ·have:=th b q; omega
  ·have:=tg b q; omega
 have hcs5:=F5.get F4.ok hcs4 (fun q=>by have:=(L5 _ q).2; omega)
 have wl:wr .i64 (((r.F.length+1:Nat):Int)-1)=((r.F.length:Nat):Int):=by
  have:=B.f
  rw[wr64 (by omega) (by omega)]; omega
 have oh:=H5.slv.one
 have og:=G5.slv.one
 simp only[S.ze9,zw_,Nat.reduceAdd,Nat.reduceLeDiff,Int.reduceNeg,z07,reduceCtorEq,fill,repl,opd,hcs,z1,z3,z4,e3,hcs3,npa,han3,wl,e5,hcs5,oh,og]
 have F6:Fr [pT] g5 (g5.put pT (some (.cells [.int .i64 k.s,.int .i64 k.a,.int .i64 k.c,.int .i64 k.hd,.int .i64 k.g,.int .i64 k.st,.sl (g2.next+1) 0 (r.F.length+1) (.op 1),xh,t.w,t.c,xg] .rw))):=(Fr.refl F5.ok).put (.inl (by simp)) (F5.ok.lt hcs5) _
 have l3:=F3.le
 have l4:(g3.put pT (some (.cells [.int .i64 k.s,.int .i64 k.a,.int .i64 k.c,.int .i64 k.hd,.int .i64 k.g,.int .i64 k.st,.sl (g2.next+1) 0 (r.F.length+1) (.op 1),t.h,t.w,t.c,t.g] .rw))).next=g3.next:=rfl
 rw[l4] at bh bg
 -- back: what stands where in the end
 have back:∀b,b<g2.next->b∉t.f.blk->b∉t.h.blk ++ t.g.blk->b≠pT->(g5.put pT (some (.cells [.int .i64 k.s,.int .i64 k.a,.int .i64 k.c,.int .i64 k.hd,.int .i64 k.g,.int .i64 k.st,.sl (g2.next+1) 0 (r.F.length+1) (.op 1),xh,t.w,t.c,xg] .rw))).get b=g2.get b:=fun b h1 h2 h3 h4=>by
  rw[zf h4,F5.same b (by rw[l4]; omega) h3,zf h4,F3.same b h1 h2]
 have back3:∀b,g2.next<=b->b<g3.next->(g5.put pT (some (.cells [.int .i64 k.s,.int .i64 k.a,.int .i64 k.c,.int .i64 k.hd,.int .i64 k.g,.int .i64 k.st,.sl (g2.next+1) 0 (r.F.length+1) (.op 1),xh,t.w,t.c,xg] .rw))).get b=g3.get b:=fun b h1 h2=>by
  have h4:b≠pT:=by omega
  rw[zf h4,F5.same b (by rw[l4]; omega) (fun q=>by have:=L5 b q; omega),zf h4]
 have ntf:∀b,n1<=b->b∉t.f.blk:=fun b h1 q=>by have:=tf b q; omega
 have nhg:∀b,b<n1\/n5<=b->b∉t.h.blk ++ t.g.blk:=fun b h1 q=>by have:=L5 b q; omega
 obtain⟨cs,u1,u2⟩:=A2.D.ou
 have FF:Fr [] h (g5.put pT (some (.cells [.int .i64 k.s,.int .i64 k.a,.int .i64 k.c,.int .i64 k.hd,.int .i64 k.g,.int .i64 k.st,.sl (g2.next+1) 0 (r.F.length+1) (.op 1),xh,t.w,t.c,xg] .rw))):=by
  refine((A2.F.trans F24 (fun b hb=>.inr ?_)).trans F5 (fun b hb=>.inr (by have:=L5 b hb; omega))).trans F6 (fun b hb=>.inr (by simp only[List.mem_singleton] at hb; omega))
  rcases List.mem_append.mp hb with q | q
  ·have:=tf b q; omega
  ·simp only[List.mem_singleton] at q; omega
 refine Ev.some ⟨rfl,rfl,⟨.sl (g2.next+1) 0 (r.F.length+1) (.op 1),xh,t.w,t.c,xg⟩,zq _ _ _,FF,⟨?_,?_,?_,?_,?_⟩,⟨cs,by rw[back po (by omega) (fun q=>by have:=tf _ q; omega) (nhg _ (.inl (by omega))) (by omega)]; exact u1,u2⟩⟩
 ·refine .inr ⟨g2.next+1,.op 1,.gr 1,vs ++ [.sl b1 0 n (.ex n)],?_,?_,?_,fun i v l e1 e2 => ?_⟩
  ·rw[show(({ r with F:=r.F ++ [List.replicate n (-1)] }:RSt).gives w a.h r.F.length).F=r.F ++ [List.replicate n (-1)] from rfl,List.length_append]; rfl
  ·rw[z6w (by omega),back3 _ (by omega) hl3]; exact hn3
  ·rw[show(({ r with F:=r.F ++ [List.replicate n (-1)] }:RSt).gives w a.h r.F.length).F=r.F ++ [List.replicate n (-1)] from rfl,List.length_append,List.length_append,hvl]; rfl
  ·have e2':(r.F ++ [List.replicate n (-1)])[i]?=some l:=e2
   by_cases hi:i<vs.length
   ·rw[List.getElem?_append_left hi] at e1
    rw[List.getElem?_append_left (by omega)] at e2'
    have R:=hvr i v l e1 e2'
    refine R.row.congr fun b hb => ?_
    have hbb:=R.blk b hb
    have hnf:b∉t.f.blk:=by
     -- rows stand below the row of them
     obtain⟨hz,hz2⟩ | ⟨bF,vs',hx,hbF,hl',hi1,hr',hm'⟩:=A2.T.f
     ·rw[hz]; simp[V.blk]
     ·rw[hx]
      simp only[V.blk,List.mem_singleton]
      rintro rfl
      obtain⟨bi,ci,ki,rfl,hbi,_⟩:=R
      simp only[V.blk,List.mem_singleton] at hb
      subst hb
      rw[hbF] at hbi
      simp only[Option.some.injEq,Blk.cells.injEq] at hbi
      have hv0:=hr' 0
      cases hF0:r.F with
      | nil=>rw[hF0] at e2'; simp at e2'
      | cons l0 F0 =>
       obtain⟨v0,hv0'⟩:∃v0,vs'[0]?=some v0:=⟨_,List.getElem?_eq_getElem (by rw[hl',hF0]; simp)⟩
       have R0:=hv0 v0 l0 hv0' (by rw[hF0]; rfl)
       obtain⟨bi0,ci0,ki0,rfl,_⟩:=R0
       rw[hbi.1,List.getElem?_map] at hv0'
       cases hq:l[0]? with
       | none=>rw[hq] at hv0'; cases hv0'
       | some z=>rw[hq] at hv0'; cases hv0'
    rw[z6w (by omega),back b (by omega) hnf (nhg _ (.inl hbb.2)) (by omega)]
   ·have hie:i=vs.length:=by
     have:=z0a e1
     rw[List.length_append,List.length_singleton] at this
     omega
    subst hie
    rw[List.getElem?_append_right (Nat.le_refl _),Nat.sub_self] at e1
    rw[hvl,List.getElem?_append_right (Nat.le_refl _),Nat.sub_self] at e2'
    cases e1; cases e2'
    have hb2:b1<g2.next:=A2.ok.lt hg1
    refine .inr ⟨b1,0,.ex n,.rw,(List.replicate n (-1)).map (.int .i64),by rw[List.length_replicate],?_,?_,?_,.inr ⟨n,rfl,by rw[List.length_replicate]; exact Nat.le_refl _⟩⟩
    ·rw[z6w (by omega),back b1 hb2 (ntf _ (by omega)) (nhg _ (.inr (by omega))) (by omega)]; exact hg1
    ·rw[List.drop_zero,List.take_of_length_le (by rw[List.length_map]; exact Nat.le_refl _)]
    ·rw[List.length_map]; omega
 ·exact H5.congr fun b hb=>by have:=bh b hb; rw[z6w (by omega),zf (by omega)]
 ·exact A2.ww fun b h1 h2=>back b (by omega) (ntf _ (by omega)) (fun q=>by
   rcases List.mem_append.mp q with q | q
   ·have:=th b q; omega
   ·have:=tg b q; omega) (by omega)
 ·exact A2.cw fun b h1 h2=>back b (by omega) (ntf _ (by omega)) (fun q=>by
   rcases List.mem_append.mp q with q | q
   ·have:=th b q; omega
   ·have:=tg b q; omega) (by omega)
 ·exact G5.congr fun b hb=>by have:=bg b hb; rw[z6w (by omega),zf (by omega)]
theorem z0ks (A:SwAt g0 h k s r c a g p q pa po pT n0 n1 n2 n3 n4 n5 t) (B:r.small) (hk:c.kind=1) {w nh:Int}{n:Nat} (hcn:c.n=(n:Int)) (hn:n<=100000) (gv ys:Bool) :
  Ev (S.zn W w (.ptr p 0) (.ptr q 0) (.ptr pa 0) (.ptr po 0) nh gv ys (.ptr pT 0) g) (zml g0 h k (z0j r w c a) po pT):=by
 have hd:z0j r w c a=({ r with F:=r.F ++ [List.replicate n (-1)] }:RSt).gives w a.h r.F.length:=by
  unfold z0j; rw[hk,hcn]; simp
 rw[hd]
 have hcl:=A.D.E.cl
 rw[hk,hcn] at hcl
 have hmk:=zvi (h:=g) (e:=1) (b:=8) (z:=[V.int .i64 0]) (l:=(n:Int)) (c:=(n:Int)) (Int.natCast_nonneg n) (Int.le_refl _) (by omega) (by omega) rfl (by decide)
 rw[Int.toNat_natCast,z0b3] at hmk
 simp only[S.zn,zw_,Nat.reduceAdd,Int.reduceNeg,hcl,hmk]
 have F1:Fr [] g (g.new (.cells ((z5w 0 n).map (.int .i64)) .rw)):=(Fr.refl A.ok).new _
 have hb:=ze g (.cells ((z5w 0 n).map (.int .i64)) .rw)
 generalize (g.new (.cells ((z5w 0 n).map (.int .i64)) .rw))=g1 at F1 hb ⊢
 have lo:=A.lo
 have lt:=A.lt
 have hq:=A.D.E.ok.lt A.D.E.cl
 refine z0f (α:=Nat) (fun i=>S.z9l (.int .i64 w) (.ptr q 0) (.ptr pa 0) (.ptr po 0) (.ptr pT 0) (.sl g.next 0 n (.ex n)) (.int .i64 (i:Nat)))
  (fun i g'=>i<=n/\Fr [] g g'/\g'.get g.next=some (.cells ((z5w i n).map (.int .i64)) .rw)) (fun i _=>n-i)
  (fun z=>z.1=.exit 1/\z.2.1=S.zf3 (.int .i64 w) (.ptr pa 0) (.ptr po 0) (.ptr pT 0) (.sl g.next 0 n (.ex n))/\Fr [] g z.2.2/\z.2.2.get g.next=some (.cells ((z5w n n).map (.int .i64)) .rw)) 0 rfl ⟨Nat.zero_le _,F1,hb⟩ ?_ ?_
 rotate_left
 ·rintro⟨_,_,g'⟩ ⟨rfl,rfl,F',hb'⟩
  show Ev (S.zgw W (.exit 1) _ _) _
  rw[S.zrg]
  dsimp only at F' hb'
  rw[z0by] at hb'
  exact z0ls A B F' (Nat.le_refl _) hb' rfl
 rintro i g' ⟨hi,F',hb'⟩
 rw[S.zus]
 have hcl':=F'.get A.ok hcl (by simp)
 by_cases hin:i<n
 ·have d:decide ((i:Int)<(n:Int))=true:=zll hin
  have i1:z0 1 (.sl g.next 0 n (.ex n)) (.int .i64 (i:Int))=some (.ptr g.next i):=zs hin
  have s1:=z02j hb' (by simp) (i:=i) (v:=.int .i64 (-1)) (by rw[List.length_map,z013 hi]; exact hin) rfl
  rw[z00h,z0jf hin] at s1
  have wi:=znz (i:=i) (by omega)
  simp only[S.zfr,zw_,Int.reduceNeg,hcl',d,i1,s1,wi]
  exact Ev.some (.inl ⟨i+1,rfl,rfl,⟨hin,F'.put (.inr (Nat.le_refl _)) (F'.ok.lt hb') _,zq _ _ _⟩,Nat.sub_lt_sub_left hin (Nat.lt_succ_self i)⟩)
 ·have hie:i=n:=by omega
  subst hie
  have d:decide ((i:Int)<(i:Int))=false:=decide_eq_false (Int.lt_irrefl _)
  simp only[S.zfr,zw_,Int.reduceNeg,hcl',d]
  exact Ev.some (.inr ⟨by simp,rfl,rfl,F',hb'⟩)
end
structure ErrOk (k:Cfg) (r:RSt) (w:Int) (c:CallR):Prop where
 rng:1<=c.kind/\c.kind<=10
 new:c.kind=1->0<=c.n/\c.n<=k.a/\(r.held w:Int)<k.hd
 node:2<=c.kind->c.kind<=8->0<=r.node w c.h
 fld:2<=c.kind->c.kind<=5->0<=c.n/\c.n<((r.fl (r.node w c.h)).length:Int)
 x:c.kind=3\/c.kind=7->0<=r.node w c.x
 load:c.kind=2->0<=r.fat (r.node w c.h) c.n->(r.held w:Int)<k.hd
 op:c.kind=8->r.walk w=0
 next:c.kind=9->r.come w≠[]/\(r.held w:Int)<k.hd
 tok:c.kind=9\/c.kind=10->r.walk w≠0/\r.walk w=c.h
theorem z00x {k:Cfg}{r:RSt}{w:Int}{c:CallR} (h:errR k r w c=0):ErrOk k r w c:=by
 rw[zz3] at h
 split at h
 ·exact absurd h (by decide)
 rename_i hk
 have hk1:1<=c.kind:=by omega
 have hk2:c.kind<=10:=by omega
 split at h
 ·rename_i k1
  split at h
  ·exact absurd h (by decide)
  rename_i hn
  split at h
  ·rename_i hr
   exact⟨⟨hk1,hk2⟩,fun _=>⟨by omega,by omega,hr⟩,fun q _=>by omega,fun q _=>by omega,fun q=>by omega,fun q=>by omega,fun q=>by omega,fun q=>by omega,fun q=>by omega⟩
  ·exact absurd h (by decide)
 rename_i k1
 split at h
 ·rename_i k9
  unfold err6 at h
  split at h
  ·exact absurd h (by decide)
  rename_i h6
  split at h
  ·exact absurd h (by decide)
  rename_i h5
  refine⟨⟨hk1,hk2⟩,fun q=>absurd q k1,fun q _=>by omega,fun q _=>by omega,fun q=>by omega,fun q=>by omega,fun q=>by omega,fun q=>⟨fun e=>h6 (.inr (.inr ⟨q,by rw[e]; rfl⟩)),?_⟩,fun _=>⟨fun e=>h6 (.inl e),?_⟩⟩
  ·exact Decidable.of_not_not fun e=>h5 ⟨q,e⟩
  ·exact Decidable.of_not_not fun e=>h6 (.inr (.inl e))
 rename_i k9
 unfold err9 at h
 split at h
 ·exact absurd h (by decide)
 rename_i h2
 unfold ziv at h
 split at h
 ·exact absurd h (by decide)
 rename_i h3
 unfold zy7 at h
 split at h
 ·exact absurd h (by decide)
 rename_i h5
 split at h
 ·exact absurd h (by decide)
 rename_i h7
 refine⟨⟨hk1,hk2⟩,fun q=>absurd q k1,fun _ _ => ?_,fun q1 q2 => ?_,fun q => ?_,fun q1 q2 => ?_,fun q => ?_,fun q=>absurd (.inl q) k9,fun q=>absurd q k9⟩
 ·exact Int.not_lt.mp fun e=>h2 (.inl e)
 ·refine⟨Int.not_lt.mp fun e=>h3 ⟨⟨q1,q2⟩,.inl e⟩,Int.not_le.mp fun e=>h3 ⟨⟨q1,q2⟩,.inr e⟩⟩
 ·exact Decidable.of_not_not fun e=>h2 (.inr (.inl ⟨q,e⟩))
 ·exact Decidable.of_not_not fun e=>h5 ⟨q1,q2,e⟩
 ·exact Decidable.of_not_not fun e=>h7 ⟨q,e⟩
section
variable {g0:Nat->Option Blk}{h:H}{k:Cfg}{s:StV}{r:RSt}{c:CallR}{a:AnsR}{g:H}{p q pa po pT n0 n1 n2 n3 n4 n5:Nat}{t:StV}
theorem z0mf (A:SwAt g0 h k s r c a g p q pa po pT n0 n1 n2 n3 n4 n5 t) (I:RIn k r) (B:r.small) (ka:k.a<=100000) {w:Int} (w0:0<=w) (w1:w<k.c) (he:errR k r w c=0) :
  Ev (S.zn W w (.ptr p 0) (.ptr q 0) (.ptr pa 0) (.ptr po 0) (r.node w c.h) (z25 r w c) (yesR r w c) (.ptr pT 0) g) (zml g0 h k (z0j r w c a) po pT):=by
 have E:=z00x he
 obtain⟨j,hj,hW,hC⟩:=I.walkAt w0 w1
 have fld:2<=c.kind->c.kind<=5->∃(n i:Nat) (l:List Int),r.F[n]?=some l/\i<l.length/\r.node w c.h=(n:Int)/\c.n=(i:Int):=fun q1 q2=>by
  obtain⟨n,hn,hF⟩:=I.flAt (E.node q1 (by omega))
  obtain⟨h1,h2⟩:=E.fld q1 q2
  exact⟨n,c.n.toNat,_,hF,by omega,hn,by omega⟩
 have hr:=E.rng
 by_cases k1:c.kind=1
 ·obtain⟨h1,h2,_⟩:=E.new k1
  exact z0ks A B k1 (n:=c.n.toNat) (by omega) (by omega) _ _
 by_cases k2:c.kind=2
 ·obtain⟨n,i,l,e1,e2,e3,e4⟩:=fld (by omega) (by omega)
  exact z0k6 A B k2 e1 e2 e3 e4 _ _ rfl
 by_cases k3:c.kind=3
 ·obtain⟨n,i,l,e1,e2,e3,e4⟩:=fld (by omega) (by omega)
  exact z0b4 A B.h e1 e2 e3 e4 _ _ (.inl k3)
 by_cases k4:c.kind=4
 ·obtain⟨n,i,l,e1,e2,e3,e4⟩:=fld (by omega) (by omega)
  exact z0l0 A k4 e1 e2 e3 e4 _ _
 by_cases k5:c.kind=5
 ·obtain⟨n,i,l,e1,e2,e3,e4⟩:=fld (by omega) (by omega)
  exact z0b4 A B.h e1 e2 e3 e4 _ _ (.inr ⟨k5,rfl⟩)
 by_cases k6:c.kind=6
 ·exact z0l4 A B k6 _ _
 by_cases k7:c.kind=7
 ·exact z0l6 A k7 _ _
 by_cases k8:c.kind=8
 ·obtain⟨n,hn,hF⟩:=I.flAt (E.node (by omega) (by omega))
  exact z0k9 A I B k8 hj (z0a hW) (z0a hC) hn (z0a hF) _ _
 by_cases k9:c.kind=9
 ·cases hc:r.come w with
  | nil=>exact absurd hc (E.next k9).1
  | cons x xs=>exact z0kc A B k9 hj (hC.trans (by rw[hc])) _ _
 ·exact z0ip A (by omega) hj (z0a hW) (z0a hC) _ _
def Fin' (g0:Nat->Option Blk) (h:H) (k:Cfg) (r':RSt) (b:Bool) (z:V × H):Prop:=∃s',z.1=.tup [s'.v k,.bool b]/\Fr [] h z.2/\StAt (ug g0 h z.2) s' r'
structure DxAt (g0:Nat->Option Blk) (h:H) (k:Cfg) (s:StV) (r:RSt) (c:CallR) (a:AnsR) (g:H) (p q pa po:Nat):Prop where
 D:DoAt k s r c a g p q pa po
 hok:h.ok
 sb:Sub g0 h.get
 Z0:StAt g0 s r
 F:Fr [] h g
 lo:h.next<=po/\po≠p/\po≠q/\po≠pa
theorem DxAt.fr (X:DxAt g0 h k s r c a g p q pa po) {g':H} (F:Fr [] g g'):DxAt g0 h k s r c a g' p q pa po:=⟨X.D.fr F,X.hok,X.sb,X.Z0,X.F.trans' F,X.lo⟩
theorem zz5 {cs l:List V} (h:l.length=cs.length) (h1:l.all V.one=true):stB (some (.cells cs .rw)) 0 l=some (.cells l .rw):=by
 have hd:decide (Bk.rw=Bk.ro)=false:=rfl
 have hl:decide (0+l.length<=cs.length)=true:=decide_eq_true (by omega)
 rw[z6q,hd,h1,hl]
 show some (Blk.cells (z07 cs 0 l) .rw)=_
 unfold z07
 rw[List.take_zero,List.nil_append,List.drop_of_length_le (by omega),List.append_nil]
theorem zzx (k:Cfg) {g:Nat->Option Blk}{s:StV}{r:RSt} (Z:StAt g s r):[V.int .i64 k.s,.int .i64 k.a,.int .i64 k.c,.int .i64 k.hd,.int .i64 k.g,.int .i64 k.st,s.f,s.h,s.w,s.c,s.g].all V.one=true:=by
 simp only[List.all_cons,List.all_nil,Z.f.slv.one,Z.h.slv.one,Z.w.slv.one,Z.c.slv.one,Z.g.slv.one]; rfl
theorem DxAt.st (X:DxAt g0 h k s r c a g p q pa po):stB (g.get po) 0 [V.int .i64 k.s,.int .i64 k.a,.int .i64 k.c,.int .i64 k.hd,.int .i64 k.g,.int .i64 k.st,s.f,s.h,s.w,s.c,s.g]=some (.cells [V.int .i64 k.s,.int .i64 k.a,.int .i64 k.c,.int .i64 k.hd,.int .i64 k.g,.int .i64 k.st,s.f,s.h,s.w,s.c,s.g] .rw):=by
 obtain⟨cs,h1,h2⟩:=X.D.ou
 rw[h1]
 exact zz5 (by rw[h2]; rfl) (zzx k X.Z0)
theorem DxAt.fin (X:DxAt g0 h k s r c a g p q pa po) (b:Bool):Fin' g0 h k r b (.tup [.agg [V.int .i64 k.s,.int .i64 k.a,.int .i64 k.c,.int .i64 k.hd,.int .i64 k.g,.int .i64 k.st,s.f,s.h,s.w,s.c,s.g],.bool b],g.put po (some (.cells [V.int .i64 k.s,.int .i64 k.a,.int .i64 k.c,.int .i64 k.hd,.int .i64 k.g,.int .i64 k.st,s.f,s.h,s.w,s.c,s.g] .rw))):=by
 obtain⟨cs,h1,_⟩:=X.D.ou
 exact⟨s,rfl,X.F.put (.inr X.lo.1) (X.D.E.ok.lt h1) _,X.Z0.sub (z02f X.sb X.hok _)⟩
theorem z0fa (A:SwAt g0 h k s r c a g p q pa po pT n0 n1 n2 n3 n4 n5 t) (I:RIn k r) (B:r.small) (ka:k.a<=100000) {w:Int} (w0:0<=w) (w1:w<k.c) (he:errR k r w c=0) :
  Ev ((S.zez W (S.zf2 (.int .i64 w) (.ptr p 0) (.ptr q 0) (.ptr pa 0) (.ptr po 0) (.int .i64 (r.node w c.h)) (.bool (z25 r w c)) (.bool (yesR r w c)) (.ptr pT 0)) g).bind fun z=>S.zhx W z.1 z.2.1 z.2.2) (fun z=>∃t',z.1=.tup [t'.v k,.bool true]/\Fr [po] h z.2/\StAt (ug g0 h z.2) t' (z0j r w c a)):=by
 rw[S.zux]
 refine Ev.bind (z0mf A I B ka w0 w1 he) ?_
 rintro⟨_,_,g'⟩ ⟨rfl,rfl,t',hcs,F',Z',cs,u1,u2⟩
 dsimp only at hcs F' Z' u1 ⊢
 rw[S.zte]
 have lo:=A.lo
 have z1:=Z'.f.slv.one
 have z2:=Z'.h.slv.one
 have z3:=Z'.w.slv.one
 have z4:=Z'.c.slv.one
 have z5:=Z'.g.slv.one
 have lt:=A.lt
 have npo:¬po=pT:=by have:=A.T.le; omega
 have hst:stB (g'.get po) 0 [V.int .i64 k.s,.int .i64 k.a,.int .i64 k.c,.int .i64 k.hd,.int .i64 k.g,.int .i64 k.st,t'.f,t'.h,t'.w,t'.c,t'.g]=some (.cells [V.int .i64 k.s,.int .i64 k.a,.int .i64 k.c,.int .i64 k.hd,.int .i64 k.g,.int .i64 k.st,t'.f,t'.h,t'.w,t'.c,t'.g] .rw):=by
  rw[u1]
  exact zz5 (by rw[u2]; rfl) (zzx k Z')
 simp only[S.zl5,zw_,Nat.reduceAdd,Nat.reduceLeDiff,finV,z3w,z6u,z48,hcs,hst]
 have hlp:po<g'.next:=F'.ok.lt u1
 refine Ev.some ⟨t',rfl,(F'.mono (by simp)).put (.inl (by simp)) hlp _,Z'.sub fun b x hb => ?_⟩
 unfold ug at hb ⊢
 split
 ·rename_i hbl; rw[if_pos hbl] at hb; exact hb
 ·rename_i hbl
  rw[if_neg hbl] at hb
  rw[zf (by omega)]; exact hb
end
end Wm
end
