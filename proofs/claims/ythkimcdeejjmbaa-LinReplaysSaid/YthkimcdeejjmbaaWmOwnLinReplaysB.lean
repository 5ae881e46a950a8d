/- What the functions come to, and the law: of my machine. -/
import Derived.Test.YthkimcdeejjmbaaWmOwnLinReplaysA
import Derived.Test.YthkimcdeejjmbaaWmTxtLinReplaysB
import Derived.Test.YthkimcdeejjmbaaWmFast
import Derived.Test.YthkimcdeejjmbaaWmTxtLinReplaysC
import Derived.Test.YthkimcdeejjmbaaWmEv
import Derived.Test.YthkimcdeejjmbaaWmOpen
import Derived.Test.YthkimcdeejjmbaaWmPOp0
import Derived.KernelRfl
import Derived.Test.YthkimcdeejjmbaaWmShal
import Derived.Test.YthkimcdeejjmbaaWmCore
import Derived.Test.YthkimcdeejjmbaaWmFnsLinReplays
import Derived.Test.YthkimcdeejjmbaaWmFnc
import Derived.Test.YthkimcdeejjmbaaWmProgLinReplays
import Derived.Sort.LotA
set_option linter.all false
noncomputable section
namespace Wm
attribute [local irreducible] wr
structure RSz (k:Cfg) (n:Nat) (r:RSt):Prop where
 f:r.F.length<=n
 l:∀l∈r.F,(l.length:Int)<=k.a
 h:r.Hs.length<=n
 g:r.Gv.length<=n
theorem RSz.small {k:Cfg}{n:Nat}{r:RSt} (Z:RSz k n r) (I:RIn k r) (hn:n<=100000) (ka:k.a<=100000) (kc:k.C<=100000):r.small :=
 ⟨by have:=Z.f; omega,fun l hl=>by have:=Z.l l hl; omega,by have:=Z.h; omega,by have:=I.wk; omega,by have:=I.cm; omega,by have:=Z.g; omega⟩
theorem RSz.mono {k:Cfg}{n m:Nat}{r:RSt} (Z:RSz k n r) (h:n<=m):RSz k m r:=⟨by have:=Z.f; omega,Z.l,by have:=Z.h; omega,by have:=Z.g; omega⟩
theorem z09z {α:Type}{l:List α}{i:Nat}{f:α->α}{y:α} (h:y∈l.modify i f):y∈l\/∃x∈l,y=f x:=by
 obtain⟨j,hj⟩:=List.mem_iff_getElem?.mp h
 rcases z06d hj with ⟨_,x,hx,rfl⟩ | ⟨_,hx⟩
 ·exact .inr ⟨x,List.mem_of_getElem? hx,rfl⟩
 ·exact .inl (List.mem_of_getElem? hx)
theorem znl {α:Type}{l:List α}{i:Nat}{x y:α} (h:y∈l.set i x):y=x\/y∈l:=by
 obtain⟨j,hj⟩:=List.mem_iff_getElem?.mp h
 rcases zkv hj with ⟨_,rfl⟩ | ⟨_,hx⟩
 ·exact .inl rfl
 ·exact .inr (List.mem_of_getElem? hx)
theorem RIn.come_mem {k:Cfg}{r:RSt} (I:RIn k r) (w:Int):∀n∈r.come w,0<=n/\n<r.F.length:=by
 intro n hn
 unfold RSt.come at hn
 cases hc:r.Cm[w.toNat]? with
 | none=>rw[hc] at hn; cases hn
 | some l=>rw[hc] at hn; exact I.come l (List.mem_of_getElem? hc) n hn
theorem RIn.setF {k:Cfg}{r:RSt} (I:RIn k r) (n i v:Int) (h : -1<=v/\v<r.F.length):RIn k (r.setF n i v):=by
 have hl:(r.setF n i v).F.length=r.F.length:=List.length_modify _ _ _
 refine⟨I.wk,I.cm,fun l hl' x hx => ?_,fun x hx => ?_,I.nd,fun l hl' x hx => ?_,I.wu,I.gu⟩
 ·rw[hl]
  rcases z09z hl' with q | ⟨m,q,rfl⟩
  ·exact I.f l q x hx
  ·rcases znl hx with rfl | hx
   ·exact h
   ·exact I.f m q x hx
 ·rw[hl]; exact I.hs x hx
 ·rw[hl]; exact I.come l hl' x hx
theorem RIn.gives {k:Cfg}{r:RSt} (I:RIn k r) {w q n:Int} (w0:0<=w) (w1:w<k.c) (hq:r.fresh q=true) (hu:U64 q) (hn:0<=n/\n<r.F.length):RIn k (r.gives w q n):=by
 unfold RSt.fresh at hq
 simp only[Bool.and_eq_true,Bool.not_eq_true',decide_eq_false_iff_not,List.contains_eq_mem] at hq
 obtain⟨hq1,hq0⟩:=hq
 refine⟨I.wk,I.cm,I.f,fun x hx => ?_,?_,I.come,I.wu,fun x hx => ?_⟩
 ·rcases List.mem_append.mp hx with h | h
  ·have:=I.hs x h
   exact⟨this.1,this.2.1,List.mem_append_left _ this.2.2.1,this.2.2.2⟩
  ·simp only[List.mem_singleton] at h
   subst h
   exact⟨⟨w0,w1⟩,hn,List.mem_append_right _ (by simp),hq0,hu⟩
 ·show(r.Hs ++ [_]).Pairwise _
  rw[List.pairwise_append]
  refine⟨I.nd,List.pairwise_singleton _ _,fun x hx y hy => ?_⟩
  simp only[List.mem_singleton] at hy
  subst hy
  rintro⟨_,e⟩
  have hm:=(I.hs x hx).2.2.1
  have e':x.h=q:=e
  rw[e'] at hm
  exact hq1 hm
 ·rcases List.mem_append.mp hx with h | h
  ·exact I.gu x h
  ·simp only[List.mem_singleton] at h; subst h; exact hu
theorem RIn.newF {k:Cfg}{r:RSt} (I:RIn k r) (n:Nat):RIn k { r with F:=r.F ++ [List.replicate n (-1)] }:=by
 have hl:(r.F ++ [List.replicate n (-1:Int)]).length=r.F.length+1:=by rw[List.length_append]; rfl
 refine⟨I.wk,I.cm,fun l hl' x hx => ?_,fun x hx => ?_,I.nd,fun l hl' x hx => ?_,I.wu,I.gu⟩
 ·show -1<=x/\x<((r.F ++ [List.replicate n (-1:Int)]).length:Nat)
  rw[hl]
  rcases List.mem_append.mp hl' with q | q
  ·have:=I.f l q x hx; omega
  ·simp only[List.mem_singleton] at q
   subst q
   have:=(List.mem_replicate.mp hx).2
   omega
 ·show _/\(_/\x.n<((r.F ++ [List.replicate n (-1:Int)]).length:Nat))/\_
  rw[hl]
  have:=I.hs x hx
  exact⟨this.1,⟨this.2.1.1,by omega⟩,this.2.2⟩
 ·show _/\x<((r.F ++ [List.replicate n (-1:Int)]).length:Nat)
  rw[hl]
  have:=I.come l hl' x hx; omega
theorem z0j1 {k:Cfg}{r:RSt}{w:Int}{c:CallR}{a:AnsR} (h:okR k r w c a=true) (he:errR k r w c=0) (ha:a.err=0):(z25 r w c=true->r.fresh a.h=true)/\a.yes=yesR r w c/\0<=w/\w<k.c:=by
 unfold okR at h
 split at h
 ·cases h
 rename_i hw
 rw[if_neg (by rw[he]; simp),if_neg (by omega)] at h
 simp only[Bool.and_eq_true,decide_eq_true_eq] at h
 refine⟨fun hg => ?_,h.1.2,by omega,by omega⟩
 have:=h.2
 rw[if_pos hg] at this
 exact this
theorem RIn.done {k:Cfg}{r:RSt} (I:RIn k r) {w:Int}{c:CallR}{a:AnsR} (h:okR k r w c a=true) (he:errR k r w c=0) (ha:a.err=0) (hu:U64 a.h):RIn k (z0j r w c a):=by
 obtain⟨hf,_,w0,w1⟩:=z0j1 h he ha
 have E:=z00x he
 have nodeB:∀q,-1<=r.node w q/\r.node w q<r.F.length\/r.node w q = -1:=fun q=>by
  rcases I.node w q with e | e
  ·exact .inr e
  ·exact .inl (by omega)
 have node':∀q,0<=r.node w q -> -1<=r.node w q/\r.node w q<r.F.length:=fun q hq=>by
  rcases nodeB q with e | e
  ·exact e
  ·omega
 unfold z0j
 split
 ·rename_i k1
  exact(I.newF _).gives w0 w1 (hf (by unfold z25; rw[decide_eq_true k1]; rfl)) hu ⟨by omega,by rw[List.length_append,List.length_singleton]; omega⟩
 split
 ·rename_i k2
  split
  ·rename_i hg
   refine I.gives w0 w1 (hf hg) hu ?_
   unfold z25 at hg
   rw[k2] at hg
   have hfat:0<=r.fat (r.node w c.h) c.n:=by simpa using hg
   refine⟨hfat,?_⟩
   obtain⟨h0,h1⟩:=E.fld (by omega) (by omega)
   obtain⟨j,_,hj⟩:=RSt.fatAt h0 h1
   exact(I.fl_lt _ _ (List.mem_of_getElem? hj)).2
  ·exact I
 split
 ·rename_i k3
  exact I.setF _ _ _ (node' _ (E.x (.inl k3)))
 split
 ·obtain⟨n,hn,hF⟩:=I.flAt (E.node (by omega) (by omega))
  exact I.setF _ _ _ ⟨by omega,by have:=z0a hF; omega⟩
 split
 ·split
  ·obtain⟨n,hn,hF⟩:=I.flAt (E.node (by omega) (by omega))
   refine I.setF _ _ _ ?_
   rcases nodeB c.x with e | e
   ·exact e
   ·have:=z0a hF; omega
  ·exact I
 split
 ·refine⟨I.wk,I.cm,I.f,fun x hx=>I.hs x (List.mem_filter.mp hx).1,I.nd.filter _,I.come,I.wu,I.gu⟩
 split
 ·rename_i k8
  obtain⟨n,hn,hF⟩:=I.flAt (E.node (by omega) (by omega))
  have hfr:=hf (by unfold z25; rw[k8]; simp)
  refine⟨by rw[List.length_set]; exact I.wk,by rw[List.length_set]; exact I.cm,I.f,fun x hx => ?_,I.nd,fun l hl x hx => ?_,fun x hx => ?_,fun x hx => ?_⟩
  ·have:=I.hs x hx
   exact⟨this.1,this.2.1,List.mem_append_left _ this.2.2.1,this.2.2.2⟩
  ·rcases znl hl with rfl | hl
   ·rw[hn] at hx
    obtain⟨X,S⟩:=I.reached_all (z0a hF)
    have:=S.all x hx
    exact⟨this.1,this.2⟩
   ·exact I.come l hl x hx
  ·rcases znl hx with rfl | hx
   ·exact hu
   ·exact I.wu x hx
  ·rcases List.mem_append.mp hx with h | h
   ·exact I.gu x h
   ·simp only[List.mem_singleton] at h; subst h; exact hu
 split
 ·rename_i k9
  have hfr:=hf (by unfold z25; rw[k9]; simp)
  obtain⟨hc,_⟩:=E.next k9
  have hcm:=I.come_mem w
  cases hcc:r.come w with
  | nil=>exact absurd hcc hc
  | cons x xs =>
   rw[hcc] at hcm
   have I1:=I.gives (n:=x) w0 w1 hfr hu (hcm x List.mem_cons_self)
   refine⟨I1.wk,by rw[List.length_set]; exact I.cm,I1.f,I1.hs,I1.nd,fun l hl y hy => ?_,I1.wu,I1.gu⟩
   rcases znl hl with rfl | hl
   ·exact hcm y (List.mem_cons_of_mem _ hy)
   ·exact I.come l hl y hy
 split
 ·refine⟨by rw[List.length_set]; exact I.wk,by rw[List.length_set]; exact I.cm,I.f,I.hs,I.nd,fun l hl y hy => ?_,fun x hx => ?_,I.gu⟩
  ·rcases znl hl with rfl | hl
   ·cases hy
   ·exact I.come l hl y hy
  ·rcases znl hx with rfl | hx
   ·exact⟨by decide,by decide⟩
   ·exact I.wu x hx
 ·exact I
theorem RIn.do {k:Cfg}{r:RSt} (I:RIn k r) (w:Int) (c:CallR) {a:AnsR} (hu:U64 a.h):RIn k (doR k r w c a):=by
 unfold doR zln
 split
 ·rename_i h
  simp only[Bool.and_eq_true,decide_eq_true_eq] at h
  exact I.done h.1.1 h.1.2 h.2 hu
 ·exact I
theorem RSz.done {k:Cfg}{n:Nat}{r:RSt} (Z:RSz k n r) {w:Int}{c:CallR}{a:AnsR} (he:errR k r w c=0):RSz k (n+1) (z0j r w c a):=by
 have E:=z00x he
 have Z1:=Z.mono (Nat.le_succ n)
 have gv:∀(r':RSt) (q m:Int),r'.F=r.F->r'.Hs=r.Hs->r'.Gv=r.Gv->RSz k (n+1) (r'.gives w q m):=fun r' q m h1 h2 h3=>by
  have:=Z.h; have:=Z.g; have:=Z.f
  refine⟨by rw[show(r'.gives w q m).F=r'.F from rfl,h1]; omega,by rw[show(r'.gives w q m).F=r'.F from rfl,h1]; exact Z.l,?_,?_⟩
  ·rw[show(r'.gives w q m).Hs=r'.Hs ++ [⟨w,q,m⟩] from rfl,h2,List.length_append,List.length_singleton]; omega
  ·rw[show(r'.gives w q m).Gv=r'.Gv ++ [q] from rfl,h3,List.length_append,List.length_singleton]; omega
 have st:∀(n' i v:Int),RSz k (n+1) (r.setF n' i v):=fun n' i v=>by
  refine⟨by rw[show(r.setF n' i v).F=r.F.modify n'.toNat fun l=>l.set i.toNat v from rfl,List.length_modify]; exact Z1.f,fun l hl => ?_,Z1.h,Z1.g⟩
  rcases z09z hl with q | ⟨m,q,rfl⟩
  ·exact Z.l l q
  ·rw[List.length_set]; exact Z.l m q
 unfold z0j
 split
 ·rename_i k1
  obtain⟨h0,h1,_⟩:=E.new k1
  have:=Z.h; have:=Z.g; have:=Z.f
  refine⟨?_,fun l hl => ?_,?_,?_⟩
  ·show(r.F ++ [_]).length<=_
   rw[List.length_append,List.length_singleton]; omega
  ·have hl':l∈r.F ++ [List.replicate c.n.toNat (-1)]:=hl
   rcases List.mem_append.mp hl' with q | q
   ·exact Z.l l q
   ·simp only[List.mem_singleton] at q
    subst q
    rw[List.length_replicate]; omega
  ·show(r.Hs ++ [_]).length<=_
   rw[List.length_append,List.length_singleton]; omega
  ·show(r.Gv ++ [_]).length<=_
   rw[List.length_append,List.length_singleton]; omega
 split
 ·split
  ·exact gv r _ _ rfl rfl rfl
  ·exact Z1
 split
 ·exact st _ _ _
 split
 ·exact st _ _ _
 split
 ·split
  ·exact st _ _ _
  ·exact Z1
 split
 ·exact⟨Z1.f,Z1.l,Nat.le_trans (List.length_filter_le _ _) Z1.h,Z1.g⟩
 split
 ·refine⟨Z1.f,Z1.l,Z1.h,?_⟩
  show(r.Gv ++ [_]).length<=_
  have:=Z.g
  rw[List.length_append,List.length_singleton]; omega
 split
 ·have:=gv r a.h ((r.come w).headD 0) rfl rfl rfl
  exact⟨this.f,this.l,this.h,this.g⟩
 split
 ·exact⟨Z1.f,Z1.l,Z1.h,Z1.g⟩
 ·exact Z1
theorem RSz.do {k:Cfg}{n:Nat}{r:RSt} (Z:RSz k n r) (w:Int) (c:CallR) (a:AnsR):RSz k (n+1) (doR k r w c a):=by
 unfold doR zln
 split
 ·rename_i h
  simp only[Bool.and_eq_true,decide_eq_true_eq] at h
  exact Z.done h.1.2
 ·exact Z.mono (Nat.le_succ n)
end Wm
end
noncomputable section
namespace Wm
attribute [local congr] zi
attribute [local irreducible] wr
def z4z (l:List HoldR) (i:Nat):List (V × V):=(l.filter fun x=>decide (x.c=(i:Int))).map fun x=>(.int .u64 x.h,.int .i64 x.n)
def ze3 (l:List Int):List (V × V):=l.map fun q=>(.int .u64 q,.int .i64 1)
theorem z0hy (l:List HoldR) (i:Nat):(z4z l i).length=z031 l (i:Int):=by unfold z4z z031; rw[List.length_map]
theorem zvt (x:HoldR) (l:List HoldR) (i:Nat):z4z (x :: l) i=if x.c=(i:Int) then (.int .u64 x.h,.int .i64 x.n) :: z4z l i else z4z l i:=by
 unfold z4z
 rw[List.filter_cons]
 by_cases h:x.c=(i:Int)
 ·rw[if_pos h,if_pos (by simp[h]),List.map_cons]
 ·rw[if_neg h,if_neg (by simp[h])]
theorem z03l (a b:Int):z79 .int (.int .u64 a) (.int .u64 b)=some (decide (a=b)):=by simp[z79]
theorem zxg:∀(l:List HoldR) (i:Nat) (q:Int),findKey .int (.int .u64 q) (z4z l i)=some ((l.find? fun x=>x.is (i:Int) q).map fun x=>.int .i64 x.n)
 | [],i,q=>rfl
 | x :: l,i,q=>by
  have ih:=zxg l i q
  rw[zvt,List.find?_cons]
  by_cases h:x.c=(i:Int)
  ·rw[if_pos h]
   simp only[findKey,z03l]
   by_cases hq:q=x.h
   ·have hx:x.is (i:Int) q=true:=by unfold HoldR.is; simp[h,hq]
    rw[decide_eq_true hq,hx]; rfl
   ·have hx:x.is (i:Int) q=false:=by unfold HoldR.is; simp[h]; exact fun e=>hq e.symm
    rw[decide_eq_false hq,hx]; exact ih
  ·rw[if_neg h]
   have hx:x.is (i:Int) q=false:=by unfold HoldR.is; simp[h]
   rw[hx]; exact ih
theorem zq5:∀(l:List Int) (q:Int),findKey .int (.int .u64 q) (ze3 l)=some (if l.contains q then some (.int .i64 1) else none)
 | [],q=>rfl
 | x :: l,q=>by
  have ih:=zq5 l q
  unfold ze3 at ih ⊢
  rw[List.map_cons,List.contains_cons]
  simp only[findKey,z03l]
  by_cases hq:q=x
  ·rw[decide_eq_true hq]; subst hq; simp
  ·rw[decide_eq_false hq]
   have:(q == x)=false:=by simp[hq]
   rw[this,Bool.false_or]; exact ih
theorem zye {k:V} (x:V):∀ {es:List (V × V)},findKey .int k es=some none->zpu .int k x es=some (es ++ [(k,x)])
 | [],_=>rfl
 | (a,v) :: es,h=>by
  simp only[findKey] at h
  simp only[zpu]
  cases he:z79 .int k a with
  | none=>rw[he] at h; cases h
  | some b =>
   rw[he] at h
   cases b with
   | true=>cases h
   | false=>simp only at h ⊢; rw[zye x h]; rfl
theorem z072:∀(l:List HoldR) (i:Nat) (q:Int),l.Pairwise (fun x y=>¬(x.c=y.c/\x.h=y.h))->zvz .int (.int .u64 q) (z4z l i)=some (z4z (l.filter fun x=>!(x.is (i:Int) q)) i)
 | [],i,q,_=>rfl
 | x :: l,i,q,hp=>by
  rw[List.pairwise_cons] at hp
  have ih:=z072 l i q hp.2
  rw[zvt,List.filter_cons]
  by_cases h:x.c=(i:Int)
  ·rw[if_pos h]
   simp only[zvz,z03l]
   by_cases hq:q=x.h
   ·have hx:x.is (i:Int) q=true:=by unfold HoldR.is; simp[h,hq]
    rw[decide_eq_true hq,hx]
    -- no other one has that key
    have hall:l.filter (fun y=>!(y.is (i:Int) q))=l:=by
     rw[List.filter_eq_self]
     intro y hy
     have:=hp.1 y hy
     cases hyi:y.is (i:Int) q with
     | false=>rfl
     | true =>
      unfold HoldR.is at hyi
      simp only[Bool.and_eq_true,decide_eq_true_eq] at hyi
      exact absurd ⟨h.trans hyi.1.symm,hq ▸ hyi.2.symm⟩ this
    show some (z4z l i)=_
    rw[if_neg (by simp),hall]
   ·have hx:x.is (i:Int) q=false:=by unfold HoldR.is; simp[h]; exact fun e=>hq e.symm
    rw[decide_eq_false hq,hx]
    simp only[ih]
    rw[if_pos (by simp),zvt,if_pos h]
  ·rw[if_neg h]
   have hx:x.is (i:Int) q=false:=by unfold HoldR.is; simp[h]
   rw[hx,if_pos (by simp),zvt,if_neg h]; exact ih
structure MdB where
 b:Nat
 xF:V
 vs:List V
 bs:List Nat
 bh:Nat
 ms:List Nat
 bw:Nat
 ns:List V
 gm:Nat
 kw:Bool
def MdB.kb (B:MdB):Bk:=match B.kw with | true=>.rw | false=>.gr 2
def MdB.cw (B:MdB) (n:Nat):Cap:=match B.kw with | true=>.ex n | false=>.op 2
theorem MdB.kb_ne (B:MdB):B.kb≠.ro:=by unfold MdB.kb; cases B.kw <;> simp
theorem MdB.kb_ro (B:MdB):decide (B.kb=.ro)=false:=decide_eq_false B.kb_ne
def MdB.l (B:MdB):List Nat:=B.b :: B.bh :: B.bw :: B.gm :: (B.ms ++ (B.xF.blk ++ B.bs))
def MdB.nb (B:MdB):List Nat:=(B.ns.map V.blk).flatten
def z50:List Int->List V->List V
 | q :: l,v :: m=>.int .u64 q :: v :: z50 l m
 | _,_=>[]
structure MdAt (k:Cfg) (g:Nat->Option Blk) (B:MdB) (r:RSt):Prop where
 nd:B.l.Nodup
 nn:∀a∈B.nb,a∉B.l
 own:g B.b=some (.cells [.int .i64 k.s,.int .i64 k.a,.int .i64 k.c,.int .i64 k.hd,.int .i64 k.g,.int .i64 k.st,B.xF,.sl B.bh 0 k.C (.op 1),.sl B.bw 0 k.C (B.cw k.C),.map B.gm] .rw)
 fo:Grown g B.xF 1 B.vs
 fl:B.vs.length=r.F.length/\B.bs.length=r.F.length
 fr:∀(i:Nat) (v:V) (b:Nat) (l:List Int),B.vs[i]?=some v->B.bs[i]?=some b->r.F[i]?=some l->∃c k,v=.sl b 0 l.length c/\g b=some (.cells (l.map (.int .i64)) k)/\k≠.ro/\(c=.op 1\/∃n,c=.ex n/\l.length<=n)
 ho:g B.bh=some (.cells (B.ms.map .map) (.gr 1))
 hl:B.ms.length=k.C
 hm:∀(i m:Nat),B.ms[i]?=some m->g m=some (.map (z4z r.Hs i))
 wo:g B.bw=some (.cells (z50 r.Wk B.ns) B.kb)
 wl:r.Wk.length=k.C/\B.ns.length=k.C/\r.Cm.length=k.C
 wr:∀(i:Nat) (v:V) (l:List Int),B.ns[i]?=some v->r.Cm[i]?=some l->RowO .i64 g v l
 gv:g B.gm=some (.map (ze3 r.Gv))
theorem z00w:∀ {l:List Int}{m:List V}{i:Nat}{q:Int}{v:V},l[i]?=some q->m[i]?=some v->(z50 l m)[i * 2]?=some (.int .u64 q)/\(z50 l m)[i * 2+1]?=some v
 | [],_,i,_,_,h,_=>by simp at h
 | _ :: _,[],i,_,_,_,h=>by simp at h
 | a :: l,b :: m,0,q,v,h1,h2=>by
  simp only[List.getElem?_cons_zero,Option.some.injEq] at h1 h2
  subst h1; subst h2; exact⟨rfl,rfl⟩
 | a :: l,b :: m,i+1,q,v,h1,h2=>by
  have:=z00w (l:=l) (m:=m) (i:=i) h1 h2
  rw[show(i+1) * 2=i * 2+1+1 from by omega]
  exact this
theorem zys:∀ {l:List Int}{m:List V},l.length=m.length->(z50 l m).length=l.length * 2
 | [],[],_=>rfl
 | a :: l,b :: m,h=>by
  have:=zys (l:=l) (m:=m) (by simpa using h)
  simp only[z50,List.length_cons,this]; omega
 | [],_ :: _,h=>by simp at h
 | _ :: _,[],h=>by simp at h
theorem MdAt.rows {k:Cfg}{g:Nat->Option Blk}{B:MdB}{r:RSt} (M:MdAt k g B r):RowsO .i64 g B.xF r.F :=
 M.fo.rowsO M.fl.1 fun i v l h1 h2=>by
  have h3:i<B.bs.length:=by have:=z0a h2; have:=M.fl.2; omega
  obtain⟨c,kk,rfl,hb,hk,hc⟩:=M.fr i v _ l h1 (List.getElem?_eq_getElem h3) h2
  exact .inr ⟨_,0,c,kk,_,rfl,hb,by rw[List.drop_zero,List.take_of_length_le (by rw[List.length_map]; omega)],by rw[List.length_map]; omega,hc⟩
theorem MdAt.fr' {k:Cfg}{g g':H}{B:MdB}{r:RSt}{L:List Nat} (M:MdAt k g.get B r) (ok:g.ok) (F:Fr L g g') (h1:∀b∈B.l,b∉L) (h2:∀b∈B.nb,b∉L):MdAt k g'.get B r:=by
 have inl:∀ {b:Nat}{x:Blk},g.get b=some x->b∈B.l->g'.get b=some x:=fun hb hm=>F.get ok hb (h1 _ hm)
 refine⟨M.nd,M.nn,inl M.own (by simp[MdB.l]),M.fo.congr fun b hb=>F.same b (M.fo.lt ok b hb) (h1 b (by simp[MdB.l,hb])),M.fl,fun i v b l e1 e2 e3 => ?_,inl M.ho (by simp[MdB.l]),M.hl,fun i m hm=>inl (M.hm i m hm) (by simp[MdB.l,List.mem_of_getElem? hm]),inl M.wo (by simp[MdB.l]),M.wl,fun i v l e1 e2 => ?_,inl M.gv (by simp[MdB.l])⟩
 ·obtain⟨c,kk,e,hb,r⟩:=M.fr i v b l e1 e2 e3
  exact⟨c,kk,e,inl hb (by simp[MdB.l,List.mem_of_getElem? e2]),r⟩
 ·have R:=M.wr i v l e1 e2
  exact R.congr fun b hb=>F.same b (R.lt ok b hb) (h2 b (by
   unfold MdB.nb
   exact List.mem_flatten.mpr ⟨v.blk,List.mem_map.mpr ⟨v,List.mem_of_getElem? e1,rfl⟩,hb⟩))
theorem MdAt.fr0 {k:Cfg}{g g':H}{B:MdB}{r:RSt} (M:MdAt k g.get B r) (ok:g.ok) (F:Fr [] g g'):MdAt k g'.get B r:=M.fr' ok F (by simp) (by simp)
section
variable {k:Cfg}{g:H}{B:MdB}{r:RSt}
theorem MdAt.l1 (M:MdAt k g.get B r):ldB (g.get B.b) 1=some (.int .i64 k.a):=by rw[M.own]; rfl
theorem MdAt.l2 (M:MdAt k g.get B r):ldB (g.get B.b) 2=some (.int .i64 k.c):=by rw[M.own]; rfl
theorem MdAt.l3 (M:MdAt k g.get B r):ldB (g.get B.b) 3=some (.int .i64 k.hd):=by rw[M.own]; rfl
theorem MdAt.l6 (M:MdAt k g.get B r):ldB (g.get B.b) 6=some B.xF:=by
 rw[M.own,z08]; simp only[List.getElem?_cons_succ,List.getElem?_cons_zero,M.fo.slv.one]
theorem MdAt.l7 (M:MdAt k g.get B r):ldB (g.get B.b) 7=some (.sl B.bh 0 k.C (.op 1)):=by rw[M.own]; rfl
theorem MdAt.l8 (M:MdAt k g.get B r):ldB (g.get B.b) 8=some (.sl B.bw 0 k.C (B.cw k.C)):=by rw[M.own]; rfl
theorem MdAt.l9 (M:MdAt k g.get B r):ldB (g.get B.b) 9=some (.map B.gm):=by rw[M.own]; rfl
theorem MdAt.map (M:MdAt k g.get B r) {w:Int} (h0:0<=w) (h1:w<k.c):∃(i m:Nat),w=(i:Int)/\B.ms[i]?=some m/\z0 1 (.sl B.bh 0 k.C (.op 1)) (.int .i64 w)=some (.ptr B.bh i)/\ldB (g.get B.bh) i=some (.map m)/\g.get m=some (.map (z4z r.Hs i)):=by
 have hC:(k.C:Int)=k.c:=by unfold Cfg.C; omega
 have hl:=M.hl
 obtain⟨m,hm⟩:∃m,B.ms[w.toNat]?=some m:=⟨_,List.getElem?_eq_getElem (by omega)⟩
 refine⟨w.toNat,m,by omega,hm,?_,?_,M.hm _ _ hm⟩
 ·have:=zs (b:=B.bh) (n:=k.C) (i:=w.toNat) (c:=.op 1) (by omega)
  rw[show((w.toNat:Nat):Int)=w from by omega] at this
  exact this
 ·rw[M.ho,z08,List.getElem?_map,hm]; rfl
theorem MdAt.walk (M:MdAt k g.get B r) {w:Int} (h0:0<=w) (h1:w<k.c):∃(i:Nat) (v:V),w=(i:Int)/\B.ns[i]?=some v/\r.Wk[i]?=some (r.walk w)/\r.Cm[i]?=some (r.come w)/\z0 2 (.sl B.bw 0 k.C (B.cw k.C)) (.int .i64 w)=some (.ptr B.bw (i * 2))/\ldB (g.get B.bw) (i * 2)=some (.int .u64 (r.walk w))/\ldB (g.get B.bw) (i * 2+1)=some v/\RowO .i64 g.get v (r.come w):=by
 have hC:(k.C:Int)=k.c:=by unfold Cfg.C; omega
 obtain⟨w1,w2,w3⟩:=M.wl
 obtain⟨v,hv⟩:∃v,B.ns[w.toNat]?=some v:=⟨_,List.getElem?_eq_getElem (by omega)⟩
 have hW:r.Wk[w.toNat]?=some (r.walk w):=by unfold RSt.walk; rw[List.getElem?_eq_getElem (by omega)]; rfl
 have hCm:r.Cm[w.toNat]?=some (r.come w):=by unfold RSt.come; rw[List.getElem?_eq_getElem (by omega)]; rfl
 obtain⟨e1,e2⟩:=z00w hW hv
 have R:=M.wr _ v _ hv hCm
 refine⟨w.toNat,v,by omega,hv,hW,hCm,?_,?_,?_,R⟩
 ·have:=z06j (b:=B.bw) (n:=k.C) (i:=w.toNat) (e:=2) (c:=B.cw k.C) (by omega)
  rw[show((w.toNat:Nat):Int)=w from by omega] at this
  exact this
 ·rw[M.wo,z08,e1]; rfl
 ·rw[M.wo,z08,e2]; simp only[R.slv.one]
theorem zx8 (M:MdAt k g.get B r) (w:Int):C 279 [.ptr B.b 0,.int .i64 w] g=some (.bool (decide (0<=w) && decide (w<k.c)),g):=by
 refine zn5 (af:=F.z36) (by kernel_rfl) rfl ?_
 rw[S.zqk]
 have l2:=M.l2
 cases d0:decide (0<=w) with
 | true=>simp only[S.z36,zw_,eqV,eqV,d0,l2]
 | false=>simp only[S.z36,zw_,eqV,eqV,d0]
theorem z01g (M:MdAt k g.get B r) (w:Int):C 105 [.ptr B.b 0,.int .i64 w] g=some (.int .i64 (if 0<=w/\w<k.c then (r.held w:Int) else 0),g):=by
 refine zn5 (af:=F.z6z) (by kernel_rfl) rfl ?_
 rw[S.z04s]
 have hc:=zx8 M w
 by_cases hw:0<=w/\w<k.c
 ·rw[decide_eq_true hw.1,decide_eq_true hw.2] at hc
  rw[if_pos hw]
  obtain⟨i,m,rfl,hm,i1,l1,e1⟩:=M.map hw.1 hw.2
  have l7:=M.l7
  have hes:g.entries (.map m)=some (z4z r.Hs i):=by simp only[H.entries,e1]
  have hl:=z0hy r.Hs i
  simp only[S.z6z,zw_,hc,l7,i1,l1,hes,hl]; rfl
 ·have hcf:(decide (0<=w) && decide (w<k.c))=false:=by
   rcases Classical.em (0<=w) with h | h
   ·rw[decide_eq_false (fun q=>hw ⟨h,q⟩),Bool.and_false]
   ·rw[decide_eq_false h,Bool.false_and]
  rw[hcf] at hc
  rw[if_neg hw]
  simp only[S.z6z,zw_,hc]
theorem zh6 (M:MdAt k g.get B r) (w q:Int):C 106 [.ptr B.b 0,.int .i64 w,.int .u64 q] g=some (.int .i64 (if 0<=w/\w<k.c then r.node w q else -1),g):=by
 refine zn5 (af:=F.z5q) (by kernel_rfl) rfl ?_
 rw[S.z05h]
 have hc:=zx8 M w
 by_cases hw:0<=w/\w<k.c
 ·rw[decide_eq_true hw.1,decide_eq_true hw.2] at hc
  rw[if_pos hw]
  obtain⟨i,m,rfl,hm,i1,l1,e1⟩:=M.map hw.1 hw.2
  have l7:=M.l7
  have hlk:g.look .int (.int .i64 0) true (.map m) (.int .u64 q)=some (match (r.Hs.find? fun x=>x.is (i:Int) q) with | some x=>.tup [.int .i64 x.n,.bool true] | none=>.tup [.int .i64 0,.bool false]):=by
   simp only[H.look,zsr,H.entries,e1,zxg]
   cases (r.Hs.find? fun x=>x.is (i:Int) q) <;> rfl
  have hn:r.node (i:Int) q=match (r.Hs.find? fun x=>x.is (i:Int) q) with | some x=>x.n | none => -1:=rfl
  rw[hn]
  cases hf:(r.Hs.find? fun x=>x.is (i:Int) q) with
  | some x=>rw[hf] at hlk; simp only[S.z5q,zw_,Int.reduceNeg,hc,l7,i1,l1,hlk]
  | none=>rw[hf] at hlk; simp only[S.z5q,zw_,Int.reduceNeg,hc,l7,i1,l1,hlk]
 ·have hcf:(decide (0<=w) && decide (w<k.c))=false:=by
   rcases Classical.em (0<=w) with h | h
   ·rw[decide_eq_false (fun q=>hw ⟨h,q⟩),Bool.and_false]
   ·rw[decide_eq_false h,Bool.false_and]
  rw[hcf] at hc
  rw[if_neg hw]
  simp only[S.z5q,zw_,Int.reduceNeg,hc]
def RSt.field (r:RSt) (n i:Int):Int:=if 0<=n/\n<r.F.length/\0<=i/\i<(r.fl n).length then r.fat n i else -1
theorem z0ez (M:MdAt k g.get B r) (n i:Int):C 116 [.ptr B.b 0,.int .i64 n,.int .i64 i] g=some (.int .i64 (r.field n i),g):=by
 refine zn5 (af:=F.z2t) (by kernel_rfl) rfl ?_
 rw[S.z02v]
 have l6:=M.l6
 have hlen:=M.rows.len
 unfold RSt.field
 by_cases h0:n<0
 ·have d0:decide (n<0)=true:=decide_eq_true h0
  rw[if_neg (by omega)]
  simp only[S.z2t,zw_,Int.reduceNeg,eqV,eqV,d0]
 have d0:decide (n<0)=false:=decide_eq_false h0
 by_cases h1:(r.F.length:Int)<=n
 ·have d1:decide ((r.F.length:Int)<=n)=true:=decide_eq_true h1
  rw[if_neg (by omega)]
  simp only[S.z2t,zw_,Int.reduceNeg,eqV,eqV,d0,l6,hlen,d1]
 have d1:decide ((r.F.length:Int)<=n)=false:=decide_eq_false h1
 by_cases h2:i<0
 ·have d2:decide (i<0)=true:=decide_eq_true h2
  rw[if_neg (by omega)]
  simp only[S.z2t,zw_,Int.reduceNeg,eqV,eqV,d0,l6,hlen,d1,d2]
 have d2:decide (i<0)=false:=decide_eq_false h2
 obtain⟨q,rfl⟩:∃q:Nat,n=(q:Int):=⟨n.toNat,by omega⟩
 have hF:r.F[q]?=some (r.fl (q:Int)):=by
  unfold RSt.fl
  rw[Int.toNat_natCast,List.getElem?_eq_getElem (by omega)]; rfl
 obtain⟨b,y,ix,ly,Y⟩:=M.rows.at hF
 have hyl:=Y.len
 by_cases h3:((r.fl (q:Int)).length:Int)<=i
 ·have d3:decide (((r.fl (q:Int)).length:Int)<=i)=true:=decide_eq_true h3
  rw[if_neg (by omega)]
  simp only[S.z2t,zw_,Int.reduceNeg,eqV,eqV,d0,l6,hlen,d1,d2,ix,ly,hyl,d3]
 ·have d3:decide (((r.fl (q:Int)).length:Int)<=i)=false:=decide_eq_false h3
  obtain⟨j,ej,hj⟩:=RSt.fatAt (r:=r) (n:=(q:Int)) (i:=i) (by omega) (by omega)
  obtain⟨b3,o3,i3,l3⟩:=Y.at hj
  rw[<-ej] at i3
  rw[if_pos ⟨by omega,by omega,by omega,by omega⟩]
  simp only[S.z2t,zw_,Int.reduceNeg,eqV,eqV,d0,l6,hlen,d1,d2,ix,ly,hyl,d3,i3,l3]
theorem z0d2 (M:MdAt k g.get B r) (q:Int):C 383 [.ptr B.b 0,.int .u64 q] g=some (.bool (r.fresh q),g):=by
 refine zn5 (af:=F.z4u) (by kernel_rfl) rfl ?_
 rw[S.z02p]
 have l9:=M.l9
 have hlk:g.look .int (.int .i64 0) false (.map B.gm) (.int .u64 q)=some (.int .i64 (if r.Gv.contains q then 1 else 0)):=by
  simp only[H.look,zsr,H.entries,M.gv,zq5]
  cases r.Gv.contains q <;> rfl
 unfold RSt.fresh
 cases d0:decide (q=0) with
 | true=>simp only[S.z4u,zw_,d0]
 | false =>
  cases hc:r.Gv.contains q with
  | true =>
   rw[hc] at hlk
   simp only[S.z4u,zw_,Int.reduceEq,d0,l9,hlk]
  | false =>
   rw[hc] at hlk
   simp only[S.z4u,zw_,reduceCtorEq,d0,l9,hlk]
end
theorem z08e {prog:Nat->Option AFunc}{meth:Nat->Nat->Option Nat}{r n f:Nat}{af:AFunc} (hf:prog f=some af) (hc:af.closed=true) {args:List V}{v:V} (ha:V.flats args=true) (hr:run prog meth r n f args .empty=some (v,.empty)) (h:H):callW prog meth f args h=some (v,h):=by
 cases n with
 | zero=>simp[run] at hr
 | succ n =>
  refine z069 (r:=r) (n:=n+1) ?_
  simp only[run,hf] at hr ⊢
  unfold zeq at hr ⊢
  simp only[hc,ha] at hr ⊢
  simp only[Option.bind_eq_some_iff] at hr ⊢
  obtain⟨p,hp,hr⟩:=hr
  refine⟨p,hp,?_⟩
  split at hr
  ·cases hr; rfl
  ·cases hr
theorem zoj (n:Int) (hr:runF prog meth 100 100 445 [.int .u64 1,.int .u64 n] .empty=some (.tup [.int .u64 0,.int .u64 n],.empty)) (h:H):C 445 [.int .u64 1,.int .u64 n] h=some (.tup [.int .u64 0,.int .u64 n],h) :=
 z08e (af:=F.zq3) (by kernel_rfl) rfl rfl (by rw[<-z02a]; exact hr) h
set_option maxRecDepth 100000 in
theorem z0ib {n:Nat} (hn:n<=8) (h:H):C 445 [.int .u64 1,.int .u64 (n:Int)] h=some (.tup [.int .u64 0,.int .u64 (n:Int)],h):=by
 match n,hn with
 | 0,_=>exact zoj 0 (by kernel_rfl) h
 | 1,_=>exact zoj 1 (by kernel_rfl) h
 | 2,_=>exact zoj 2 (by kernel_rfl) h
 | 3,_=>exact zoj 3 (by kernel_rfl) h
 | 4,_=>exact zoj 4 (by kernel_rfl) h
 | 5,_=>exact zoj 5 (by kernel_rfl) h
 | 6,_=>exact zoj 6 (by kernel_rfl) h
 | 7,_=>exact zoj 7 (by kernel_rfl) h
 | 8,_=>exact zoj 8 (by kernel_rfl) h
 | n+9,h=>omega
theorem z0hj {m n c:Nat} (h:m<=n) (hc:c<=m):((z5w m n).map (V.int .i64)).take c=(List.replicate c (-1)).map (.int .i64):=by
 unfold z5w
 rw[List.map_append,List.take_append_of_le_length (by rw[List.length_map,List.length_replicate]; exact hc),<-List.map_take,List.take_replicate,Nat.min_eq_left hc]
theorem z06p {m n c:Nat} (h:m+c<=n):z07 ((z5w m n).map (V.int .i64)) m ((List.replicate c (-1)).map (.int .i64))=(z5w (m+c) n).map (.int .i64):=by
 unfold z07
 rw[List.length_map,List.length_replicate,<-List.map_take,<-List.map_drop,<-List.map_append,<-List.map_append]
 congr 1
 unfold z5w
 rw[List.take_append_of_le_length (by rw[List.length_replicate]; omega),List.take_of_length_le (by rw[List.length_replicate]; omega),List.drop_append,List.length_replicate,List.drop_of_length_le (by rw[List.length_replicate]; omega),List.nil_append,List.drop_replicate,List.append_assoc,<-List.append_assoc,List.replicate_append_replicate]
 congr 2
 omega
theorem z0kq {h:H}{p m n c:Nat} (hb:h.get p=some (.cells ((z5w m n).map (.int .i64)) .rw)) (hmn:m<=n) (hc:c=min m (n-m)) (h0:0<c) :
  h.copy 1 (.sl p m (n-m) (.ex (n-m))) (.sl p 0 m (.ex n))=some (.int .i64 (c:Nat),h.put p (some (.cells ((z5w (m+c) n).map (.int .i64)) .rw))):=by
 have hbeq:Nat.beq c 0=false:=by
  cases hq:Nat.beq c 0 with
  | false=>rfl
  | true=>have:=Nat.eq_of_beq_eq_true hq; omega
 have hl:h.ldc p 0 (c * 1)=some ((List.replicate c (-1)).map (.int .i64)):=by
  rw[z07e hb (by rw[List.length_map,z013 hmn]; omega),List.drop_zero,Nat.mul_one,z0hj hmn (by omega)]
 have hs:h.stc p m ((List.replicate c (-1)).map (.int .i64))=some (h.put p (some (.cells ((z5w (m+c) n).map (.int .i64)) .rw))):=by
  rw[z079 hb (by simp) (z030 _ _) (by rw[List.length_map,List.length_replicate,List.length_map,z013 hmn]; omega),z06p (by omega)]
 unfold H.copy
 simp only[z5p,<-hc,hbeq,hl,hs]
theorem z0fv {h:H} (ok:h.ok) {p n:Nat} (hp:h.get p=some (.cells [.int .i64 (-1)] .rw)) (hn:n<=8) :
  Ev (C 384 [.sl p 0 1 (.ex 1),.int .i64 (n:Int)] h) fun z=>Fr [] h z.2/\z.1=.sl h.next 0 n (.ex n)/\z.2.get h.next=some (.cells ((List.replicate n (-1)).map (.int .i64)) .rw):=by
 refine z0e (af:=F.z14) (by kernel_rfl) rfl ?_
 rw[S.zwp]
 have d0:decide ((n:Int)<0)=false:=decide_eq_false (by omega)
 have w1:wr .u64 ((1:Nat):Int)=1:=by rw[z095 (by omega) (by omega)]; rfl
 have w2:wr .u64 (n:Int)=(n:Int):=z095 (by omega) (by omega)
 have w3:wr .i64 (n:Int)=(n:Int):=wr64 (by omega) (by omega)
 have hmul:=z0ib hn h
 have d1:decide ((0:Int)<0)=false:=rfl
 have d2:decide ((9223372036854775807:Int)<(n:Int))=false:=decide_eq_false (by omega)
 have hmk:=zvi (h:=h) (e:=1) (b:=8) (z:=[V.int .i64 0]) (l:=(n:Int)) (c:=(n:Int)) (Int.natCast_nonneg n) (Int.le_refl _) (by omega) (by omega) rfl (by decide)
 rw[Int.toNat_natCast,z0b3] at hmk
 have F1:Fr [] h (h.new (.cells ((z5w 0 n).map (.int .i64)) .rw)):=(Fr.refl ok).new _
 have hb:=ze h (.cells ((z5w 0 n).map (.int .i64)) .rw)
 have hp1:=F1.get ok hp (by simp)
 have hpn:p<h.next:=ok.lt hp
 -- the first copy
 have hc1:∃m,m<=n/\(n≠0->1<=m)/\∃g1,(h.new (.cells ((z5w 0 n).map (.int .i64)) .rw)).copy 1 (.sl h.next 0 n (.ex n)) (.sl p 0 1 (.ex 1))=some (.int .i64 (m:Nat),g1)/\Fr [] h g1/\g1.get h.next=some (.cells ((z5w m n).map (.int .i64)) .rw):=by
  by_cases h0:n=0
  ·subst h0
   exact⟨0,Nat.le_refl _,fun q=>absurd rfl q,_,rfl,F1,hb⟩
  ·refine⟨1,by omega,fun _=>Nat.le_refl _,(h.new (.cells ((z5w 0 n).map (.int .i64)) .rw)).put h.next (some (.cells ((z5w 1 n).map (.int .i64)) .rw)),?_,F1.put (.inr (Nat.le_refl _)) (Nat.lt_succ_self _) _,zq _ _ _⟩
   have hm:min 1 n=1:=by omega
   have hl:(h.new (.cells ((z5w 0 n).map (.int .i64)) .rw)).ldc p 0 (1 * 1)=some [.int .i64 (-1)]:=by rw[z07e hp1 (by simp)]; rfl
   have hs:(h.new (.cells ((z5w 0 n).map (.int .i64)) .rw)).stc h.next 0 [.int .i64 (-1)]=some ((h.new (.cells ((z5w 0 n).map (.int .i64)) .rw)).put h.next (some (.cells ((z5w 1 n).map (.int .i64)) .rw))):=by
    rw[z079 hb (by simp) rfl (by rw[List.length_map,z013 (Nat.zero_le n)]; simp; omega)]
    have:=z06p (m:=0) (n:=n) (c:=1) (by omega)
    rw[Nat.zero_add] at this
    rw[<-this]; rfl
   have hbz:Nat.beq 1 0=false:=rfl
   unfold H.copy
   simp only[z5p,hm,hbz,hl,hs]
 obtain⟨m,hm,hm1,g1,e1,Fg1,hg1⟩:=hc1
 simp only[S.z14,zw_,Int.reduceLT,Int.reduceNeg,zaq,d0,w1,w2,w3,hmul,d2,hmk,e1]
 refine z0f (α:=Nat) (fun i=>S.z8k (.sl h.next 0 n (.ex n)) (.int .i64 (i:Nat)))
  (fun i g=>i<=n/\(n≠0->1<=i)/\Fr [] h g/\g.get h.next=some (.cells ((z5w i n).map (.int .i64)) .rw)) (fun i _=>n-i)
  (fun z=>z.1=.exit 0/\z.2.1=S.zdc (.sl h.next 0 n (.ex n))/\Fr [] h z.2.2/\z.2.2.get h.next=some (.cells ((z5w n n).map (.int .i64)) .rw)) m rfl ⟨hm,hm1,Fg1,hg1⟩ ?_ ?_
 rotate_left
 ·rintro⟨_,_,g⟩ ⟨rfl,rfl,F,hg⟩
  show Ev (S.zf0 W (.exit 0) _ _) _
  rw[S.zpo]
  rw[z0by] at hg
  exact Ev.some ⟨F,rfl,hg⟩
 rintro i g ⟨hi,hi1,F,hg⟩
 rw[S.ztl]
 by_cases hin:i<n
 ·have d:decide ((i:Int)<(n:Int))=true:=zll hin
  have b1:z2q 0 n (some (.int .i64 (i:Int)))=some i:=by
   have q1:decide ((0:Int)<=(i:Int))=true:=decide_eq_true (by omega)
   have q2:decide ((i:Int)<=((n:Nat):Int))=true:=decide_eq_true (by omega)
   show(match decide ((0:Int)<=(i:Int)) && decide ((i:Int)<=((n:Nat):Int)) with | true=>_ | false=>_)=_
   rw[q1,q2]; simp
  have b2:z2q n n (some (.int .i64 (i:Int)))=some i:=b1
  have b3:z2q n n none=some n:=rfl
  have b4:z2q 0 i none=some 0:=rfl
  have hz:Nat.beq n i=false:=by
   cases hq:Nat.beq n i with
   | false=>rfl
   | true=>have:=Nat.eq_of_beq_eq_true hq; omega
  have s1:zgq 1 (.sl h.next 0 n (.ex n)) (some (.int .i64 (i:Int))) none none=some (.sl h.next i (n-i) (.ex (n-i))):=by
   simp only[zgq,b3,b1,hz,Nat.mul_one,Nat.zero_add]
  have s2:zgq 1 (.sl h.next 0 n (.ex n)) none (some (.int .i64 (i:Int))) none=some (.sl h.next 0 i (.ex n)):=by
   simp only[zgq,b3,b2,b4,Nat.sub_zero]
   cases Nat.beq n 0 <;> rfl
  have h1i:=hi1 (by omega)
  have hcp:=z0kq hg hi rfl (by omega)
  have wi:wr .i64 ((i:Int)+((min i (n-i):Nat):Int))=((i+min i (n-i):Nat):Int):=by rw[wr64 (by omega) (by omega)]; rfl
  simp only[S.zde,zw_,d,s1,s2,hcp,wi]
  exact Ev.some (.inl ⟨i+min i (n-i),rfl,rfl,⟨by omega,fun _=>by omega,F.put (.inr (Nat.le_refl _)) (F.ok.lt hg) _,zq _ _ _⟩,by omega⟩)
 ·have hie:i=n:=by omega
  subst hie
  have d:decide ((i:Int)<(i:Int))=false:=decide_eq_false (Int.lt_irrefl _)
  simp only[S.zde,zw_,d]
  exact Ev.some (.inr ⟨by simp,rfl,rfl,F,hg⟩)
theorem z0gu {g:H}{x:V}{l:List Int} (R:RowO .i64 g.get x l) (hl:l.length<=100000) (v:Int):Ev (C 404 [x,.int .i64 v] g) fun z=>z.2=g/\∃n:Int,z.1=.int .i64 n/\(0<=n<->l.contains v=true):=by
 refine z0e (af:=F.z17) (by kernel_rfl) rfl ?_
 rw[S.zxi]
 have hlen:=R.len
 simp only[S.z17,zd,hlen]
 refine z0f (α:=Nat) (fun i=>S.z95 x (.int .i64 v) (.int .i64 (l.length:Nat)) (.int .i64 (i:Nat)))
  (fun i g'=>i<=l.length/\g'=g/\(l.drop i).contains v=l.contains v) (fun i _=>l.length-i)
  (fun z=>z.2.2=g/\((z.1=.exit 0/\z.2.1=S.z3z .dead/\l.contains v=false)\/(∃i:Nat,z.1=.ret/\z.2.1=S.z3z (.int .i64 (i:Nat))/\l.contains v=true))) 0 rfl ⟨Nat.zero_le _,rfl,rfl⟩ ?_ ?_
 rotate_left
 ·rintro⟨_,_,g'⟩ ⟨rfl,⟨rfl,rfl,hn⟩ | ⟨i,rfl,rfl,hn⟩⟩
  ·show Ev (S.z7a W (.exit 0) _ _) _
   rw[S.zq9]
   exact Ev.some ⟨rfl,-1,rfl,by rw[hn]; simp⟩
  ·show Ev (S.z7a W .ret _ _) _
   rw[S.zru]
   exact Ev.some ⟨rfl,(i:Nat),rfl,by rw[hn]; simp⟩
 rintro i g' ⟨hi,rfl,hn⟩
 rw[S.zu6]
 by_cases hil:i<l.length
 rotate_left
 ·have d:decide ((i:Int)<(l.length:Int))=false:=decide_eq_false (by omega)
  simp only[S.z9c,d]
  rw[List.drop_of_length_le (by omega)] at hn
  exact Ev.some (.inr ⟨by simp,rfl,.inl ⟨rfl,rfl,hn.symm⟩⟩)
 have d:decide ((i:Int)<(l.length:Int))=true:=zll hil
 obtain⟨u,hu⟩:∃u,l[i]?=some u:=⟨_,List.getElem?_eq_getElem hil⟩
 obtain⟨b,o,ix,lv⟩:=R.at hu
 have hdrop:l.drop i=u :: l.drop (i+1):=by
  rw[List.drop_eq_getElem_cons hil]
  rw[List.getElem?_eq_getElem hil] at hu
  rw[Option.some.inj hu]
 rw[hdrop,List.contains_cons] at hn
 have wi:=znz (i:=i) (by omega)
 by_cases he:v=u
 ·have de:decide (v=u)=true:=decide_eq_true he
  simp only[S.z9c,zw_,d,ix,lv,de]
  refine Ev.some (.inr ⟨by simp,rfl,.inr ⟨i,rfl,rfl,?_⟩⟩)
  rw[<-hn,he]; simp
 ·have de:decide (v=u)=false:=decide_eq_false he
  have hb:(v == u)=false:=by simp[he]
  rw[hb,Bool.false_or] at hn
  simp only[S.z9c,zw_,d,ix,lv,de,wi]
  exact Ev.some (.inl ⟨i+1,rfl,rfl,⟨hil,rfl,hn⟩,Nat.sub_lt_sub_left hil (Nat.lt_succ_self i)⟩)
theorem z0cr {g:H}{x:V}{l:List Int} (R:RowO .i64 g.get x l) (hl:l.length<=100000) (v:Int):C 331 [x,.int .i64 v] g=some (.bool (l.contains v),g):=by
 obtain⟨⟨_,g'⟩,e1,rfl,n,rfl,hn⟩:=z0gu R hl v
 refine zn5 (af:=F.z27) (by kernel_rfl) rfl ?_
 rw[S.zu3]
 have hb:decide (0<=n)=l.contains v:=by
  cases hc:l.contains v with
  | true=>exact decide_eq_true (hn.mpr hc)
  | false=>exact decide_eq_false fun q=>by have:=hn.mp q; rw[hc] at this; cases this
 simp only[S.z27,zw_,e1,hb]
structure RcmAt (h1 g:H) (r:RSt) (x:V) (l:List Int):Prop where
 fr:Fr [] h1 g
 q:LQ g.get x l
 xn:∀b∈x.blk,h1.next<=b
 sn:∃X,Seen r.F.length l X
section
variable {k:Cfg}{B:MdB}{r:RSt}
theorem z0au {h1:H} (ok1:h1.ok) (hB:r.F.length<=100000) {x:V}{l:List Int}{g:H} (Z:RcmAt h1 g r x l) {y:V}{f:List Int} (Y:RowO .i64 h1.get y f) (hf:∀v∈f,-1<=v/\v<r.F.length) (hfl:f.length<=100000) (x0:V) (kx:Nat) (hkx:kx<=100000) :
  Ev ((W.loop (S.zhp W) (S.z43 x0 x (.int .i64 (kx:Nat)) y (.int .i64 (f.length:Nat)) (.int .i64 0)) g).bind fun p7=>S.zeo W p7.1 p7.2.1 p7.2.2) fun z =>
   z.1=.normal/\∃x',z.2.1=S.z8v x0 x' (.int .i64 (kx+1:Nat))/\RcmAt h1 z.2.2 r x' (r.nexts l f):=by
 refine z0f (α:=Nat × V × List Int) (fun a=>S.z43 x0 a.2.1 (.int .i64 (kx:Nat)) y (.int .i64 (f.length:Nat)) (.int .i64 (a.1:Nat)))
  (fun a g=>a.1<=f.length/\RcmAt h1 g r a.2.1 a.2.2/\r.nexts a.2.2 (f.drop a.1)=r.nexts l f) (fun a _=>f.length-a.1)
  (fun z=>z.1=.exit 2/\∃x',z.2.1=S.zhz x0 x' (.int .i64 (kx:Nat))/\RcmAt h1 z.2.2 r x' (r.nexts l f)) (0,x,l) rfl ⟨Nat.zero_le _,Z,rfl⟩ ?_ ?_
 rotate_left
 ·rintro⟨_,_,g'⟩ ⟨rfl,x',rfl,Z'⟩
  show Ev (S.zeo W (.exit 2) _ _) _
  rw[S.zuz]
  have wk:=znz (i:=kx) hkx
  simp only[S.zmi,wk]
  exact Ev.some ⟨rfl,x',rfl,Z'⟩
 rintro⟨i,x,l2⟩ g ⟨hi,Z,hn⟩
 dsimp only at hi Z hn ⊢
 rw[S.zz2]
 by_cases hif:i<f.length
 rotate_left
 ·have d:decide ((i:Int)<(f.length:Int))=false:=decide_eq_false (by omega)
  simp only[S.z8s,d]
  rw[List.drop_of_length_le (by omega)] at hn
  have hn':l2=r.nexts l f:=hn
  exact Ev.some (.inr ⟨by simp,rfl,x,rfl,hn' ▸ Z⟩)
 have d:decide ((i:Int)<(f.length:Int))=true:=zll hif
 obtain⟨v,hv⟩:∃v,f[i]?=some v:=⟨_,List.getElem?_eq_getElem hif⟩
 obtain⟨b,o,ix,lv⟩:=(Y.sub ((Sub.refl _).fr0 ok1 Z.fr)).at hv
 have hdrop:f.drop i=v :: f.drop (i+1):=by
  rw[List.drop_eq_getElem_cons hif]
  rw[List.getElem?_eq_getElem hif] at hv
  rw[Option.some.inj hv]
 rw[hdrop,zti] at hn
 have wi:=znz (i:=i) (by omega)
 obtain⟨v0,v1⟩:=hf v (List.mem_of_getElem? hv)
 obtain⟨X,S0⟩:=Z.sn
 have hll:=S0.len_le
 cases d0:decide (0<=v) with
 | false =>
  have hs:r.next l2 v=l2:=by unfold RSt.next; rw[d0]; rfl
  rw[hs] at hn
  simp only[S.z8s,zw_,d,ix,lv,d0,wi]
  exact Ev.some (.inl ⟨(i+1,x,l2),rfl,rfl,⟨hif,Z,hn⟩,Nat.sub_lt_sub_left hif (Nat.lt_succ_self i)⟩)
 | true =>
  have hc:=z0cr Z.q.row (by omega) v
  cases hcc:l2.contains v with
  | true =>
   rw[hcc] at hc
   have hs:r.next l2 v=l2:=by unfold RSt.next; rw[hcc]; simp
   rw[hs] at hn
   simp only[S.z8s,zw_,Nat.reduceLeDiff,z07,fill,repl,opd,d,ix,lv,d0,hc,wi]
   exact Ev.some (.inl ⟨(i+1,x,l2),rfl,rfl,⟨hif,Z,hn⟩,Nat.sub_lt_sub_left hif (Nat.lt_succ_self i)⟩)
  | false =>
   rw[hcc] at hc
   have hs:r.next l2 v=l2 ++ [v]:=by unfold RSt.next; rw[hcc,d0]; rfl
   have S1:=S0.next (r:=r) v1
   rw[hs] at hn S1
   obtain⟨x',g',ea,F2,Q2,hx'⟩:=Z.q.push Z.fr.ok (by omega) v
   simp only[S.z8s,zw_,Nat.reduceLeDiff,z07,fill,repl,opd,d,ix,lv,d0,hc,ea,wi]
   exact Ev.some (.inl ⟨(i+1,x',l2 ++ [v]),rfl,rfl,⟨hif,⟨Z.fr.trans F2 (fun b hb=>.inr (Z.xn b hb)),Q2,fun b hb=>Nat.le_trans Z.fr.le (hx' b hb),S1⟩,hn⟩,Nat.sub_lt_sub_left hif (Nat.lt_succ_self i)⟩)
theorem z0a6 {h:H} (ok:h.ok) (M:MdAt k h.get B r) (I:RIn k r) (hB:r.F.length<=100000) (hA:∀l∈r.F,l.length<=100000) {n:Nat} (hn:n<r.F.length) :
  Ev (C 386 [.ptr B.b 0,.int .i64 (n:Int)] h) fun z=>Fr [] h z.2/\RowO .i64 z.2.get z.1 (r.reached (n:Int))/\(∀b∈z.1.blk,h.next<=b):=by
 refine z0e (af:=F.z1f) (by kernel_rfl) rfl ?_
 rw[S.z021]
 simp only[S.z1f]
 have F0:Fr [] h (h.new (.cells [.int .i64 (n:Int)] .rw)):=(Fr.refl ok).new _
 have Q0:LQ (h.new (.cells [.int .i64 (n:Int)] .rw)).get (.sl h.next 0 1 (.ex 1)) [(n:Int)]:=⟨h.next,.ex 1,.rw,rfl,ze _ _,.inl rfl⟩
 have R0:RcmAt h (h.new (.cells [.int .i64 (n:Int)] .rw)) r (.sl h.next 0 1 (.ex 1)) [(n:Int)]:=⟨F0,Q0,by simp[V.blk],_,Seen.one hn⟩
 refine z0f (α:=Nat × V × List Int) (fun a=>S.z8v (.ptr B.b 0) a.2.1 (.int .i64 (a.1:Nat)))
  (fun a g=>a.1<=a.2.2.length/\RcmAt h g r a.2.1 a.2.2/\r.reach (r.F.length+1-a.1) a.1 a.2.2=r.reached (n:Int)) (fun a _=>r.F.length+1-a.1)
  (fun z=>z.1=.exit 0/\∃x',z.2.1=S.zhl x'/\Fr [] h z.2.2/\LQ z.2.2.get x' (r.reached (n:Int))/\∀b∈x'.blk,h.next<=b) (0,.sl h.next 0 1 (.ex 1),[(n:Int)]) rfl ⟨Nat.zero_le _,R0,rfl⟩ ?_ ?_
 rotate_left
 ·rintro⟨_,_,g'⟩ ⟨rfl,x',rfl,F',Q',hx'⟩
  show Ev (S.zja W (.exit 0) _ _) _
  rw[S.zva]
  exact Ev.some ⟨F',Q'.row,hx'⟩
 rintro⟨i,x,l⟩ g ⟨hi,R,hrc⟩
 dsimp only at hi R hrc ⊢
 rw[S.zyb]
 have hxl:=R.q.row.len
 obtain⟨X,S0⟩:=R.sn
 have hll:=S0.len_le
 by_cases hil:i<l.length
 rotate_left
 ·have d:decide ((i:Int)<(l.length:Int))=false:=decide_eq_false (by omega)
  rw[z0be _ _ _ _ (by omega)] at hrc
  simp only[S.zhq,zd,hxl,d]
  exact Ev.some (.inr ⟨by simp,rfl,x,rfl,R.fr,hrc ▸ R.q,R.xn⟩)
 have d:decide ((i:Int)<(l.length:Int))=true:=zll hil
 obtain⟨v,hv⟩:∃v,l[i]?=some v:=⟨_,List.getElem?_eq_getElem hil⟩
 obtain⟨b,o,ix,lv⟩:=R.q.row.at hv
 obtain⟨v0,v1⟩:=S0.all v (List.mem_of_getElem? hv)
 obtain⟨q,rfl⟩:∃q:Nat,v=(q:Int):=⟨v.toNat,by omega⟩
 have hF:r.F[q]?=some (r.fl (q:Int)):=by
  unfold RSt.fl
  rw[Int.toNat_natCast,List.getElem?_eq_getElem (by omega)]; rfl
 have Mg:=M.fr0 ok R.fr
 have hl6:=Mg.l6
 obtain⟨b2,y,i3,ly,Y0⟩:=M.rows.at hF
 have ly':=((Sub.refl _).fr0 ok R.fr).ldB ly
 have hyl:=Y0.len
 simp only[S.zhq,zw_,hxl,d,ix,lv,hl6,i3,ly',hyl]
 refine(z0au ok hB R Y0 (I.fl_lt _) (hA _ (List.mem_of_getElem? hF)) _ i (by omega)).mono ?_
 rintro⟨_,_,g'⟩ ⟨rfl,x',rfl,R'⟩
 refine .inl ⟨(i+1,x',r.nexts l (r.fl (q:Int))),rfl,rfl,⟨?_,R',?_⟩,by dsimp only; omega⟩
 ·have hmono:∀(xs l:List Int),l.length<=(r.nexts l xs).length:=by
   intro xs
   induction xs with
   | nil=>intro l; exact Nat.le_refl _
   | cons x xs ih =>
    intro l
    rw[zti]
    refine Nat.le_trans ?_ (ih _)
    unfold RSt.next
    split
    ·rw[List.length_append]; omega
    ·exact Nat.le_refl _
  have:=hmono (r.fl (q:Int)) l
  dsimp only; omega
 ·rw[show r.F.length+1-i=(r.F.length+1-(i+1))+1 from by omega,z08l _ _ _ _ hv] at hrc
  exact hrc
theorem MdAt.dist {g:Nat->Option Blk} (M:MdAt k g B r):(B.b∉B.bh :: B.bw :: B.gm :: (B.ms ++ (B.xF.blk ++ B.bs)))/\(B.bh∉B.bw :: B.gm :: (B.ms ++ (B.xF.blk ++ B.bs)))/\(B.bw∉B.gm :: (B.ms ++ (B.xF.blk ++ B.bs)))/\(B.gm∉(B.ms ++ (B.xF.blk ++ B.bs)))/\B.ms.Nodup/\(B.xF.blk ++ B.bs).Nodup/\(∀a∈B.ms,a∉B.xF.blk ++ B.bs)/\B.bs.Nodup/\(∀a∈B.xF.blk,a∉B.bs):=by
 have nd:=M.nd
 unfold MdB.l at nd
 rw[List.nodup_cons,List.nodup_cons,List.nodup_cons,List.nodup_cons,List.nodup_append] at nd
 obtain⟨h1,h2,h3,h4,h5,h6,h7⟩:=nd
 have h6':=h6
 rw[List.nodup_append] at h6'
 exact⟨h1,h2,h3,h4,h5,h6,fun a ha hb=>h7 a ha a hb rfl,h6'.2.1,fun a ha hb=>h6'.2.2 a ha a hb rfl⟩
theorem z028 {g:H} (ok:g.ok) (M:MdAt k g.get B r) (I:RIn k r) {w q n:Int} (w0:0<=w) (w1:w<k.c) (hq:r.Gv.contains q=false) :
  ∃g',C 385 [.ptr B.b 0,.int .i64 w,.int .u64 q,.int .i64 n] g=some (.tup [],g')/\Fr B.l g g'/\MdAt k g'.get B (r.gives w q n)/\g'.next=g.next:=by
 obtain⟨i,m,rfl,hm,i1,l1,e1⟩:=M.map w0 w1
 obtain⟨d1,d2,d3,d4,d5,d6,d7,d8,d9⟩:=M.dist
 have hmm:m∈B.ms:=List.mem_of_getElem? hm
 have l9:=M.l9
 have l7:=M.l7
 have hgm:B.gm≠m:=fun e=>d4 (List.mem_append_left _ (e ▸ hmm))
 have hs1:g.mapSet .int (.map B.gm) (.int .u64 q) (.int .i64 1)=some (g.put B.gm (some (.map (ze3 (r.Gv ++ [q]))))):=by
  simp only[H.mapSet,zsr,M.gv]
  rw[zye (k:=.int .u64 q) (.int .i64 1) (by rw[zq5,hq]; rfl)]
  unfold ze3
  rw[List.map_append]; rfl
 have e1':(g.put B.gm (some (.map (ze3 (r.Gv ++ [q]))))).get m=some (.map (z4z r.Hs i)):=by rw[zf hgm.symm]; exact e1
 have hnone:(r.Hs.find? fun x=>x.is (i:Int) q)=none:=by
  rw[List.find?_eq_none]
  intro x hx hxi
  unfold HoldR.is at hxi
  simp only[Bool.and_eq_true,decide_eq_true_eq] at hxi
  have:=(I.hs x hx).2.2.1
  rw[hxi.2] at this
  rw[List.contains_eq_mem] at hq
  simp[this] at hq
 have hs2:(g.put B.gm (some (.map (ze3 (r.Gv ++ [q]))))).mapSet .int (.map m) (.int .u64 q) (.int .i64 n)=some ((g.put B.gm (some (.map (ze3 (r.Gv ++ [q]))))).put m (some (.map (z4z (r.Hs ++ [⟨(i:Int),q,n⟩]) i)))):=by
  simp only[H.mapSet,zsr,e1']
  rw[zye (k:=.int .u64 q) (.int .i64 n) (by rw[zxg,hnone]; rfl)]
  have:z4z (r.Hs ++ [⟨(i:Int),q,n⟩]) i=z4z r.Hs i ++ [(.int .u64 q,.int .i64 n)]:=by
   unfold z4z
   rw[List.filter_append,List.map_append]
   simp
  rw[this]
 have nbg:B.b≠B.gm:=fun e=>d1 (by rw[e]; simp)
 have nhg:B.bh≠B.gm:=fun e=>d2 (by rw[e]; simp)
 have l72:ldB ((g.put B.gm (some (.map (ze3 (r.Gv ++ [q]))))).get B.b) 7=some (.sl B.bh 0 k.C (.op 1)):=by rw[zf nbg]; exact l7
 have l12:ldB ((g.put B.gm (some (.map (ze3 (r.Gv ++ [q]))))).get B.bh) i=some (.map m):=by rw[zf nhg]; exact l1
 refine⟨(g.put B.gm (some (.map (ze3 (r.Gv ++ [q]))))).put m (some (.map (z4z (r.Hs ++ [⟨(i:Int),q,n⟩]) i))),?_,?_,?_,rfl⟩
 ·refine zn5 (af:=F.z8m) (by kernel_rfl) rfl ?_
  rw[S.z050]
  simp only[S.z8m,z9i,zd,z1v,zk,Nat.zero_add,l9,hs1,l72,i1,l12,hs2]
 ·exact((Fr.refl ok).put (.inl (by simp[MdB.l])) (ok.lt M.gv) _).put (.inl (by simp[MdB.l,hmm])) (ok.lt e1) _
 ·have same:∀b,b≠B.gm->b≠m->((g.put B.gm (some (.map (ze3 (r.Gv ++ [q]))))).put m (some (.map (z4z (r.Hs ++ [⟨(i:Int),q,n⟩]) i)))).get b=g.get b:=fun b h1 h2=>by rw[zf h2,zf h1]
  have nbm:B.b≠m:=fun e=>d1 (by rw[e]; simp[hmm])
  have nhm:B.bh≠m:=fun e=>d2 (by rw[e]; simp[hmm])
  have nwm:B.bw≠m:=fun e=>d3 (by rw[e]; simp[hmm])
  have nwg:B.bw≠B.gm:=fun e=>d3 (by rw[e]; simp)
  refine⟨M.nd,M.nn,by rw[same _ nbg nbm]; exact M.own,M.fo.congr fun b hb=>same b (fun e=>d4 (by rw[<-e]; simp[hb])) (fun e=>d7 m hmm (by rw[<-e]; simp[hb])),M.fl,fun j v b l h1 h2 h3 => ?_,by rw[same _ nhg nhm]; exact M.ho,M.hl,fun j m' hm' => ?_,by rw[same _ nwg nwm]; exact M.wo,M.wl,fun j v l h1 h2 => ?_,?_⟩
  ·obtain⟨c,kk,e,hb,rr⟩:=M.fr j v b l h1 h2 h3
   have hbm:=List.mem_of_getElem? h2
   exact⟨c,kk,e,by rw[same b (fun e=>d4 (by rw[<-e]; simp[hbm])) (fun e=>d7 m hmm (by rw[<-e]; simp[hbm]))]; exact hb,rr⟩
  ·by_cases hji:j=i
   ·subst hji
    rw[hm] at hm'
    cases hm'
    exact zq _ _ _
   ·have hmm':m'∈B.ms:=List.mem_of_getElem? hm'
    have hne:m'≠m:=by
     intro e
     subst e
     have h1:=z0a hm
     have h2:=z0a hm'
     rw[List.getElem?_eq_getElem h1] at hm
     rw[List.getElem?_eq_getElem h2] at hm'
     have:=(List.getElem_inj (xs:=B.ms) d5 (i:=j) (j:=i) (h₀:=h2) (h₁:=h1)).mp (by rw[Option.some.inj hm,Option.some.inj hm'])
     exact hji this
    rw[same m' (fun e=>d4 (by rw[<-e]; simp[hmm'])) hne,M.hm j m' hm']
    show some (Blk.map (z4z r.Hs j))=some (.map (z4z (r.Hs ++ [⟨(i:Int),q,n⟩]) j))
    have:z4z (r.Hs ++ [⟨(i:Int),q,n⟩]) j=z4z r.Hs j:=by
     unfold z4z
     rw[List.filter_append]
     have:[(⟨(i:Int),q,n⟩:HoldR)].filter (fun x=>decide (x.c=(j:Int)))=[]:=by
      rw[List.filter_cons,if_neg (by simp; omega)]; rfl
     rw[this,List.append_nil]
    rw[this]
  ·have R:=M.wr j v l h1 h2
   refine R.congr fun b hb => ?_
   have hbn:b∈B.nb:=by
    unfold MdB.nb
    exact List.mem_flatten.mpr ⟨v.blk,List.mem_map.mpr ⟨v,List.mem_of_getElem? h1,rfl⟩,hb⟩
   have:=M.nn b hbn
   exact same b (fun e=>this (by rw[e]; simp[MdB.l])) (fun e=>this (by rw[e]; simp[MdB.l,hmm]))
  ·rw[zf hgm,zq]; rfl
end
theorem z0fq (n:Int) (h:H):C 82 [.int .i64 n] h=some (.bool (decide (n=9) || decide (n=10)),h):=by
 refine za7 (af:=F.zr3) (by kernel_rfl) rfl (by rfl) (by rfl) h ?_
 rw[S.z0hm]
 cases d9:decide (n=9) <;> cases d10:decide (n=10) <;> simp only[S.zr3,zw_,d9,d10] <;> exact Ev.some rfl
theorem z03y (n:Int) (h:H):C 83 [.int .i64 n] h=some (.bool (decide (3<=n) && decide (n<=5)),h):=by
 refine za7 (af:=F.zl8) (by kernel_rfl) rfl (by rfl) (by rfl) h ?_
 rw[S.z0eu]
 cases d9:decide (3<=n) <;> cases d10:decide (n<=5) <;> simp only[S.zl8,zw_,d9,d10] <;> exact Ev.some rfl
structure AskAt (k:Cfg) (B:MdB) (r:RSt) (c:CallR) (g:H) (q:Nat):Prop where
 ok:g.ok
 M:MdAt k g.get B r
 cl:g.get q=some (.cells [.int .i64 c.kind,.int .i64 c.n,.int .u64 c.h,.int .u64 c.x,.int .u64 c.y] .rw)
theorem AskAt.fr {k:Cfg}{B:MdB}{r:RSt}{c:CallR}{g g':H}{q:Nat} (A:AskAt k B r c g q) (F:Fr [] g g'):AskAt k B r c g' q:=⟨F.ok,A.M.fr0 A.ok F,F.get A.ok A.cl (by simp)⟩
theorem AskAt.new {k:Cfg}{B:MdB}{r:RSt}{h:H} (ok:h.ok) (M:MdAt k h.get B r) (c:CallR):AskAt k B r c (h.new (.cells [.int .i64 c.kind,.int .i64 c.n,.int .u64 c.h,.int .u64 c.x,.int .u64 c.y] .rw)) h.next :=
 ⟨ok.new _,M.fr0 ok ((Fr.refl ok).new _),ze _ _⟩
section
variable {k:Cfg}{B:MdB}{r:RSt}{c:CallR}
theorem z0dt {h:H} (ok:h.ok) (M:MdAt k h.get B r) {w:Int} (w0:0<=w) (w1:w<k.c) :
  Ev (C 280 [.ptr B.b 0,.int .i64 w,.agg c.cs] h) fun z=>z.1=.int .i64 (if c.n<0\/k.a<c.n then 1 else if (r.held w:Int)<k.hd then 0 else 5)/\Fr [] h z.2:=by
 refine z0e (af:=F.z2u) (by kernel_rfl) rfl ?_
 have hcs:V.agg c.cs=.agg [.int .i64 c.kind,.int .i64 c.n,.int .u64 c.h,.int .u64 c.x,.int .u64 c.y]:=rfl
 rw[hcs,S.z03m]
 simp only[S.z2u]
 have A:=AskAt.new ok M c
 have F0:Fr [] h (h.new (.cells [.int .i64 c.kind,.int .i64 c.n,.int .u64 c.h,.int .u64 c.x,.int .u64 c.y] .rw)):=(Fr.refl ok).new _
 generalize (h.new (.cells [.int .i64 c.kind,.int .i64 c.n,.int .u64 c.h,.int .u64 c.x,.int .u64 c.y] .rw))=g at A F0 ⊢
 generalize h.next=q at A ⊢
 have hcl:=A.cl
 have l1:=A.M.l1
 have l3:=A.M.l3
 have hh:=z01g A.M w
 rw[if_pos ⟨w0,w1⟩] at hh
 by_cases n0:c.n<0
 ·have dn:decide (c.n<0)=true:=decide_eq_true n0
  simp only[S.zdl,zw_,S.zab,S.zbk,S.zac,hcl,dn]
  exact Ev.some ⟨by rw[if_pos (.inl n0)],F0⟩
 have dn:decide (c.n<0)=false:=decide_eq_false n0
 by_cases na:k.a<c.n
 ·have da:decide (k.a<c.n)=true:=decide_eq_true na
  simp only[S.zdl,zw_,S.zab,S.zbk,S.zac,hcl,l1,dn,da]
  exact Ev.some ⟨by rw[if_pos (.inr na)],F0⟩
 have da:decide (k.a<c.n)=false:=decide_eq_false na
 rw[if_neg (fun q=>q.elim n0 na)]
 by_cases rm:(r.held w:Int)<k.hd
 ·have dr:decide (k.hd<=(r.held w:Int))=false:=decide_eq_false (by omega)
  simp only[S.zdl,zw_,S.zab,S.zbk,S.zac,V.beq,hcl,l1,l3,hh,dn,da,dr]
  exact Ev.some ⟨by rw[if_pos rm],F0⟩
 ·have dr:decide (k.hd<=(r.held w:Int))=true:=decide_eq_true (by omega)
  simp only[S.zdl,zw_,S.zab,S.zbk,S.zac,V.beq,hcl,l1,l3,hh,dn,da,dr]
  exact Ev.some ⟨by rw[if_neg rm],F0⟩
theorem z0f3 {h:H} (ok:h.ok) (M:MdAt k h.get B r) {w:Int} (w0:0<=w) (w1:w<k.c) (hk:c.kind=9\/c.kind=10) :
  Ev (C 281 [.ptr B.b 0,.int .i64 w,.agg c.cs] h) fun z=>z.1=.int .i64 (err6 k r w c)/\Fr [] h z.2:=by
 refine z0e (af:=F.z3d) (by kernel_rfl) rfl ?_
 have hcs:V.agg c.cs=.agg [.int .i64 c.kind,.int .i64 c.n,.int .u64 c.h,.int .u64 c.x,.int .u64 c.y]:=rfl
 rw[hcs,S.z04m]
 simp only[S.z3d]
 have A:=AskAt.new ok M c
 have F0:Fr [] h (h.new (.cells [.int .i64 c.kind,.int .i64 c.n,.int .u64 c.h,.int .u64 c.x,.int .u64 c.y] .rw)):=(Fr.refl ok).new _
 generalize (h.new (.cells [.int .i64 c.kind,.int .i64 c.n,.int .u64 c.h,.int .u64 c.x,.int .u64 c.y] .rw))=g at A F0 ⊢
 generalize h.next=q at A ⊢
 obtain⟨i,v,hwi,hv,hW,hCm,iw,lw,lv,R⟩:=A.M.walk w0 w1
 have l8:=A.M.l8
 -- the walk,as one
 have hns:=A.M.wo
 obtain⟨e1,e2⟩:=z00w hW hv
 have hlenw:(z50 r.Wk B.ns).length=k.C * 2:=by
  have:=A.M.wl
  rw[zys (by omega),this.1]
 have hi:i<k.C:=by have:=z0a hW; have:=A.M.wl.1; omega
 have ov:=R.slv.one
 have hld2:ldNB (g.get B.bw) (i * 2) 2=some (.agg [.int .u64 (r.walk w),v]):=by
  rw[hns,z4c,decide_eq_true (by rw[hlenw]; omega)]
  have:((z50 r.Wk B.ns).drop (i * 2)).take 2=[.int .u64 (r.walk w),v]:=by
   apply List.ext_getElem?
   intro j
   rw[List.getElem?_take]
   by_cases hj:j<2
   ·rw[if_pos hj,List.getElem?_drop]
    match j,hj with
    | 0,_=>exact e1
    | 1,_=>exact e2
   ·rw[if_neg hj,List.getElem?_eq_none (by simp; omega)]
  rw[this]
 have F1:Fr [] g (g.new (.cells [.int .u64 0,.nilsl] .rw)):=(Fr.refl A.ok).new _
 have hp0:=ze g (.cells [.int .u64 0,.nilsl] .rw)
 have hst:(g.new (.cells [.int .u64 0,.nilsl] .rw)).st 2 (.ptr g.next 0) (.agg [.int .u64 (r.walk w),v])=some ((g.new (.cells [.int .u64 0,.nilsl] .rw)).put g.next (some (.cells [.int .u64 (r.walk w),v] .rw))):=by
  rw[z92,hp0]
  show Option.map _ (stB (some (.cells [.int .u64 0,.nilsl] .rw)) 0 [.int .u64 (r.walk w),v])=_
  rw[zz5 (cs:=[.int .u64 0,.nilsl]) (l:=[.int .u64 (r.walk w),v]) rfl (by simp only[List.all_cons,List.all_nil,ov]; rfl)]; rfl
 have F2:Fr [] g ((g.new (.cells [.int .u64 0,.nilsl] .rw)).put g.next (some (.cells [.int .u64 (r.walk w),v] .rw))):=F1.put (.inr (Nat.le_refl _)) (Nat.lt_succ_self _) _
 have hp:=zq (g.new (.cells [.int .u64 0,.nilsl] .rw)) g.next (some (.cells [.int .u64 (r.walk w),v] .rw))
 simp only[z9i,zd,z1v,zk,z34,Nat.zero_add,l8,iw,hld2,hst]
 generalize ((g.new (.cells [.int .u64 0,.nilsl] .rw)).put g.next (some (.cells [.int .u64 (r.walk w),v] .rw)))=g2 at F2 hp ⊢
 generalize g.next=p at hp ⊢
 have A2:=A.fr F2
 have hcl:=A2.cl
 have l3:=A2.M.l3
 have hh:=z01g A2.M w
 rw[if_pos ⟨w0,w1⟩] at hh
 have hvl:=R.len
 have FF:=F0.trans' F2
 have bad:(r.walk w=0\/r.walk w≠c.h\/(c.kind=9/\(r.come w).length=0))->err6 k r w c=6:=fun h=>by unfold err6; rw[if_pos h]
 have good:¬(r.walk w=0\/r.walk w≠c.h\/(c.kind=9/\(r.come w).length=0))->err6 k r w c=if c.kind=9/\¬(r.held w:Int)<k.hd then 5 else 0:=fun h=>by unfold err6; rw[if_neg h]
 have lp0:ldB (g2.get p) 0=some (.int .u64 (r.walk w)):=by rw[hp]; rfl
 have lp1:ldB (g2.get p) 1=some v:=by rw[hp,z08]; simp only[List.getElem?_cons_succ,List.getElem?_cons_zero,ov]
 by_cases h0:c.h=0
 ·have d0:decide (c.h=0)=true:=decide_eq_true h0
  simp only[S.z7k,zw_,S.z6e,S.z69,S.z67,hcl,d0]
  refine Ev.some ⟨?_,FF⟩
  rw[bad]
  by_cases hw:r.walk w=0
  ·exact .inl hw
  ·exact .inr (.inl (by rw[h0]; exact hw))
 have d0:decide (c.h=0)=false:=decide_eq_false h0
 by_cases hh2:r.walk w=c.h
 rotate_left
 ·have dh:decide (r.walk w=c.h)=false:=decide_eq_false hh2
  simp only[S.z7k,zw_,S.z6e,S.z69,S.z67,hcl,lp0,d0,dh]
  exact Ev.some ⟨by rw[bad (.inr (.inl hh2))],FF⟩
 have dh:decide (r.walk w=c.h)=true:=decide_eq_true hh2
 have hw0:r.walk w≠0:=by rw[hh2]; exact h0
 by_cases k10:c.kind=10
 ·have d10:decide (c.kind=10)=true:=decide_eq_true k10
  simp only[S.z7k,zw_,S.z6e,S.z69,S.z67,hcl,lp0,d0,dh,d10]
  refine Ev.some ⟨?_,FF⟩
  rw[good (fun q=>q.elim hw0 fun q=>q.elim (fun e=>e hh2) fun q=>by omega),if_neg (by omega)]
 have d10:decide (c.kind=10)=false:=decide_eq_false k10
 have k9:c.kind=9:=by omega
 by_cases hl:((r.come w).length:Int)=0
 ·have dl:decide (((r.come w).length:Int)=0)=true:=decide_eq_true hl
  simp only[S.z7k,zw_,S.z6e,S.z69,S.z67,hcl,lp0,lp1,hvl,d0,dh,d10,dl]
  exact Ev.some ⟨by rw[bad (.inr (.inr ⟨k9,by omega⟩))],FF⟩
 have dl:decide (((r.come w).length:Int)=0)=false:=decide_eq_false hl
 have hg:=good (fun q=>q.elim hw0 fun q=>q.elim (fun e=>e hh2) fun q=>hl (by rw[q.2]; rfl))
 by_cases rm:(r.held w:Int)<k.hd
 ·have dr:decide (k.hd<=(r.held w:Int))=false:=decide_eq_false (by omega)
  simp only[S.z7k,zw_,S.z6e,S.z69,S.z67,V.beq,hcl,lp0,lp1,hvl,l3,hh,d0,dh,d10,dl,dr]
  exact Ev.some ⟨by rw[hg,if_neg (fun q=>q.2 rm)],FF⟩
 ·have dr:decide (k.hd<=(r.held w:Int))=true:=decide_eq_true (by omega)
  simp only[S.z7k,zw_,S.z6e,S.z69,S.z67,V.beq,hcl,lp0,lp1,hvl,l3,hh,d0,dh,d10,dl,dr]
  exact Ev.some ⟨by rw[hg,if_pos ⟨k9,rm⟩],FF⟩
theorem z0jb {g:H}{q:Nat} (A:AskAt k B r c g q) (I:RIn k r) {w:Int} (w0:0<=w) (w1:w<k.c) (hn:0<=r.node w c.h) (hf:2<=c.kind->c.kind<=5->0<=c.n/\c.n<((r.fl (r.node w c.h)).length:Int)) :
  Ev ((S.zg4 W (S.zg2 (.ptr B.b 0) (.int .i64 w) (.ptr q 0) (.int .i64 (r.node w c.h))) g).bind fun p0=>S.zi5 W p0.1 p0.2.1 p0.2.2) fun z=>z.1=.int .i64 (zy7 k r w c)/\z.2=g:=by
 have hcl:=A.cl
 have l6:=A.M.l6
 have l8:=A.M.l8
 have l3:=A.M.l3
 have hh:=z01g A.M w
 rw[if_pos ⟨w0,w1⟩] at hh
 obtain⟨i,v,hwi,hv,hW,hCm,iw,lw,lv,R⟩:=A.M.walk w0 w1
 obtain⟨nn,en,hF⟩:=I.flAt hn
 obtain⟨b,y,ix,ly,Y⟩:=A.M.rows.at hF
 rw[<-en] at ix
 unfold zy7
 by_cases k2:c.kind=2
 ·obtain⟨h0,h1⟩:=hf (by omega) (by omega)
  obtain⟨j,ej,hj⟩:=RSt.fatAt h0 h1
  obtain⟨b3,o3',i3,l3'⟩:=Y.at hj
  rw[<-ej] at i3
  have d2:decide (c.kind=2)=true:=decide_eq_true k2
  have d8:decide (c.kind=8)=false:=decide_eq_false (by omega)
  have n8:¬c.kind=8:=by omega
  by_cases f0:0<=r.fat (r.node w c.h) c.n
  ·have df:decide (0<=r.fat (r.node w c.h) c.n)=true:=decide_eq_true f0
   by_cases rm:(r.held w:Int)<k.hd
   ·have dr:decide (k.hd<=(r.held w:Int))=false:=decide_eq_false (by omega)
    rw[if_neg (fun q=>q.2.2 rm),if_neg (fun q=>n8 q.1)]
    simp only[S.z7l,zw_,S.z6f,S.z6a,S.z6c,V.beq,hcl,l6,l3,hh,d2,ix,ly,i3,l3',df,dr,d8]
    exact Ev.some ⟨rfl,rfl⟩
   ·have dr:decide (k.hd<=(r.held w:Int))=true:=decide_eq_true (by omega)
    rw[if_pos ⟨k2,f0,rm⟩]
    simp only[S.z7l,zw_,S.z6f,S.z6a,S.z6c,V.beq,hcl,l6,l3,hh,d2,ix,ly,i3,l3',df,dr]
    exact Ev.some ⟨rfl,rfl⟩
  ·have df:decide (0<=r.fat (r.node w c.h) c.n)=false:=decide_eq_false f0
   rw[if_neg (fun q=>f0 q.2.1),if_neg (fun q=>n8 q.1)]
   simp only[S.z7l,zw_,S.z6f,S.z6a,S.z6c,hcl,l6,d2,ix,ly,i3,l3',df,d8]
   exact Ev.some ⟨rfl,rfl⟩
 ·have d2:decide (c.kind=2)=false:=decide_eq_false k2
  rw[if_neg (fun q=>k2 q.1)]
  by_cases k8:c.kind=8
  ·have d8:decide (c.kind=8)=true:=decide_eq_true k8
   by_cases hw:r.walk w=0
   ·have dw:decide (r.walk w=0)=true:=decide_eq_true hw
    rw[if_neg (fun q=>q.2 hw)]
    simp only[S.z7l,zw_,S.z6f,S.z6a,S.z6c,hcl,l8,d2,d8,iw,lw,dw]
    exact Ev.some ⟨rfl,rfl⟩
   ·have dw:decide (r.walk w=0)=false:=decide_eq_false hw
    rw[if_pos ⟨k8,hw⟩]
    simp only[S.z7l,zw_,S.z6f,S.z6a,S.z6c,hcl,l8,d2,d8,iw,lw,dw]
    exact Ev.some ⟨rfl,rfl⟩
  ·have d8:decide (c.kind=8)=false:=decide_eq_false k8
   rw[if_neg (fun q=>k8 q.1)]
   simp only[S.z7l,zw_,S.z6f,S.z6a,S.z6c,hcl,d2,d8]
   exact Ev.some ⟨rfl,rfl⟩
theorem z0jj {g:H}{q:Nat} (A:AskAt k B r c g q) (I:RIn k r) {w:Int} (w0:0<=w) (w1:w<k.c) (hn:0<=r.node w c.h) :
  Ev ((S.zkw W (S.zk8 (.ptr B.b 0) (.int .i64 w) (.ptr q 0) (.int .i64 (r.node w c.h))) g).bind fun p0=>S.zm5 W p0.1 p0.2.1 p0.2.2) fun z=>z.1=.int .i64 (ziv k r w c)/\z.2=g:=by
 have hcl:=A.cl
 have l6:=A.M.l6
 obtain⟨nn,en,hF⟩:=I.flAt hn
 obtain⟨b,y,ix,ly,Y⟩:=A.M.rows.at hF
 have hyl:=Y.len
 rw[<-en] at ix
 have hWr:=z03y c.kind g
 have bad:(2<=c.kind/\c.kind<=5)/\(c.n<0\/((r.fl (r.node w c.h)).length:Int)<=c.n)->ziv k r w c=3:=fun hc=>by unfold ziv; rw[if_pos hc]
 have good:¬((2<=c.kind/\c.kind<=5)/\(c.n<0\/((r.fl (r.node w c.h)).length:Int)<=c.n))->ziv k r w c=zy7 k r w c:=fun hc=>by unfold ziv; rw[if_neg hc]
 have fin:¬((2<=c.kind/\c.kind<=5)/\(c.n<0\/((r.fl (r.node w c.h)).length:Int)<=c.n))->Ev ((S.zg4 W (S.zg2 (.ptr B.b 0) (.int .i64 w) (.ptr q 0) (.int .i64 (r.node w c.h))) g).bind fun p0=>S.zi5 W p0.1 p0.2.1 p0.2.2) fun z=>z.1=.int .i64 (ziv k r w c)/\z.2=g:=fun hc=>by
  rw[good hc]
  exact z0jb A I w0 w1 hn fun h1 h2=>⟨Int.not_lt.mp fun e=>hc ⟨⟨h1,h2⟩,.inl e⟩,Int.not_le.mp fun e=>hc ⟨⟨h1,h2⟩,.inr e⟩⟩
 -- does it name a field?
 by_cases kf:2<=c.kind/\c.kind<=5
 ·by_cases k2:c.kind=2
  ·have d2:decide (c.kind=2)=true:=decide_eq_true k2
   by_cases n0:c.n<0
   ·have dn:decide (c.n<0)=true:=decide_eq_true n0
    simp only[S.z5m,zw_,S.z4i,S.z44,S.z4p,hcl,d2,dn]
    exact Ev.some ⟨by rw[bad ⟨kf,.inl n0⟩],rfl⟩
   ·have dn:decide (c.n<0)=false:=decide_eq_false n0
    by_cases nl:((r.fl (r.node w c.h)).length:Int)<=c.n
    ·have dl:decide (((r.fl (r.node w c.h)).length:Int)<=c.n)=true:=decide_eq_true nl
     simp only[S.z5m,zw_,S.z4i,S.z44,S.z4p,hcl,l6,ix,ly,hyl,d2,dn,dl]
     exact Ev.some ⟨by rw[bad ⟨kf,.inr nl⟩],rfl⟩
    ·have dl:decide (((r.fl (r.node w c.h)).length:Int)<=c.n)=false:=decide_eq_false nl
     simp only[S.z5m,zw_,S.z4i,S.z44,S.z4p,hcl,l6,ix,ly,hyl,d2,dn,dl]
     exact fin fun q=>q.2.elim n0 nl
  ·have d2:decide (c.kind=2)=false:=decide_eq_false k2
   rw[decide_eq_true (show 3<=c.kind by omega),decide_eq_true kf.2] at hWr
   by_cases n0:c.n<0
   ·have dn:decide (c.n<0)=true:=decide_eq_true n0
    simp only[S.z5m,zw_,S.z4i,S.z44,S.z4p,hcl,d2,hWr,dn]
    exact Ev.some ⟨by rw[bad ⟨kf,.inl n0⟩],rfl⟩
   ·have dn:decide (c.n<0)=false:=decide_eq_false n0
    by_cases nl:((r.fl (r.node w c.h)).length:Int)<=c.n
    ·have dl:decide (((r.fl (r.node w c.h)).length:Int)<=c.n)=true:=decide_eq_true nl
     simp only[S.z5m,zw_,S.z4i,S.z44,S.z4p,hcl,l6,ix,ly,hyl,d2,hWr,dn,dl]
     exact Ev.some ⟨by rw[bad ⟨kf,.inr nl⟩],rfl⟩
    ·have dl:decide (((r.fl (r.node w c.h)).length:Int)<=c.n)=false:=decide_eq_false nl
     simp only[S.z5m,zw_,S.z4i,S.z44,S.z4p,hcl,l6,ix,ly,hyl,d2,hWr,dn,dl]
     exact fin fun q=>q.2.elim n0 nl
 ·have d2:decide (c.kind=2)=false:=decide_eq_false fun e=>kf ⟨by omega,by omega⟩
  have hb:(decide (3<=c.kind) && decide (c.kind<=5))=false:=by
   cases h3:decide (3<=c.kind) with
   | false=>rfl
   | true =>
    have:=of_decide_eq_true h3
    rw[decide_eq_false (fun q=>kf ⟨by omega,q⟩)]; rfl
  rw[hb] at hWr
  simp only[S.z5m,zw_,S.z4i,S.z44,S.z4p,hcl,d2,hWr]
  exact fin fun q=>kf q.1
theorem z0fm {h:H} (ok:h.ok) (M:MdAt k h.get B r) (I:RIn k r) {w:Int} (w0:0<=w) (w1:w<k.c) :
  Ev (C 282 [.ptr B.b 0,.int .i64 w,.agg c.cs] h) fun z=>z.1=.int .i64 (err9 k r w c)/\Fr [] h z.2:=by
 refine z0e (af:=F.z0p) (by kernel_rfl) rfl ?_
 have hcs:V.agg c.cs=.agg [.int .i64 c.kind,.int .i64 c.n,.int .u64 c.h,.int .u64 c.x,.int .u64 c.y]:=rfl
 rw[hcs,S.z055]
 simp only[S.z0p]
 have A:=AskAt.new ok M c
 have F0:Fr [] h (h.new (.cells [.int .i64 c.kind,.int .i64 c.n,.int .u64 c.h,.int .u64 c.x,.int .u64 c.y] .rw)):=(Fr.refl ok).new _
 generalize (h.new (.cells [.int .i64 c.kind,.int .i64 c.n,.int .u64 c.h,.int .u64 c.x,.int .u64 c.y] .rw))=g at A F0 ⊢
 generalize h.next=q at A ⊢
 have hcl:=A.cl
 have n1:=zh6 A.M w c.h
 have n2:=zh6 A.M w c.x
 have n3:=zh6 A.M w c.y
 rw[if_pos ⟨w0,w1⟩] at n1 n2 n3
 rw[z0gj]
 -- what stands behind the switch
 have fin:∀b:Bool,b=!bad9 (r.node w c.h) (r.node w c.x) (r.node w c.y) c->Ev (S.zfw W (.ptr B.b 0) w (.ptr q 0) (r.node w c.h) b g) fun z=>z.1=.int .i64 (if bad9 (r.node w c.h) (r.node w c.x) (r.node w c.y) c then 2 else ziv k r w c)/\Fr [] h z.2:=by
  rintro b rfl
  cases hb:bad9 (r.node w c.h) (r.node w c.x) (r.node w c.y) c with
  | true =>
   simp only[S.zfw,zw_]
   exact Ev.some ⟨rfl,F0⟩
  | false =>
   have hn:0<=r.node w c.h:=by
    unfold bad9 at hb
    simp only[Bool.or_eq_false_iff,decide_eq_false_iff_not] at hb
    exact Int.not_lt.mp hb.1.1.1
   simp only[S.zfw,zw_,Bool.false_eq_true]
   exact(z0jj A I w0 w1 hn).mono fun z hz=>⟨hz.1,by rw[hz.2]; exact F0⟩
 have hneg:decide (r.node w c.h<0)=!decide (0<=r.node w c.h):=by
  cases h0:decide (0<=r.node w c.h) with
  | true=>exact decide_eq_false (by have:=of_decide_eq_true h0; omega)
  | false=>exact decide_eq_true (by have:=of_decide_eq_false h0; omega)
 simp only[hcl,zw_,n1]
 unfold bad9 at fin ⊢
 rw[hneg] at fin ⊢
 cases d3:decide (c.kind=3) with
 | true =>
  have d7:decide (c.kind=7)=false:=decide_eq_false (by have:=of_decide_eq_true d3; omega)
  have d5:decide (c.kind=5)=false:=decide_eq_false (by have:=of_decide_eq_true d3; omega)
  rw[d3,d7,d5] at fin
  cases dh:decide (0<=r.node w c.h) with
  | true =>
   rw[dh] at fin
   simp only[S.z1k,zw_,S.z1a,S.z15,S.z1g,S.z1b,S.z11,S.z19,hcl,d3,d7,d5,n2]
   have:=fin (decide (0<=r.node w c.x)) (by cases decide (0<=r.node w c.x) <;> rfl)
   simpa only [z9i,z5p,zd7,zd5,zfa,zcp,zk3,zhm,z1v,zd,Option.map_some,zk,z34,z92,get_put',zgl,zce,z08,z4c,z6q,H.next_new,H.next_put,List.getElem?_cons_zero,List.getElem?_cons_succ,Nat.zero_add,Nat.add_zero,Nat.reduceAdd,Nat.reduceLeDiff,Nat.reduceLT,Nat.reduceMul,Nat.reduceSub,Nat.reduceEqDiff,Int.reduceEq,Int.reduceLT,Int.reduceLE,Int.reduceNeg,ze4,z97,zjk,zjw,zhr,zlo,zda,zkf,zcm,znq,zf6,zk7,zcf,zcs,zd6,zfn,zf5,zcr,zg9,z90,zfs,z8w,zhh,zat,zfq,z8r,za5,V.beq,V.beqs,ze6,zm,z0x,zaq,asS,List.length_cons,List.length_nil,Nat.beq_refl,List.all_cons,List.all_nil,Bool.and_true,Bool.and_false,Bool.true_and,Bool.false_and,Bool.not_true,Bool.not_false,Bool.or_false,Bool.false_or,Bool.or_self,Bool.and_self,decide_true,decide_false,if_true,if_false,z07,List.take_succ_cons,List.take_zero,List.drop_succ_cons,List.drop_zero,List.cons_append,List.nil_append,List.set_cons_zero,List.set_cons_succ,reduceCtorEq,fill,repl,opd,zi4,zin,zjo,zjz,zhe,zlz,zfe,zjs,zcz,znv,zf8,zjr,zcw,zhb,finV,z3w,z6u,z48,eqV,zod,z8n,part,z02,Nat.reduceBEq,Nat.beq_eq,Bool.true_or,Bool.or_true] using this
  | false =>
   rw[dh] at fin
   simp only[S.z1k,zw_,S.z1a,S.z15,S.z1g,S.z1b,S.z11,S.z19,hcl,d3,d7,d5]
   have:=fin false (by rfl)
   simpa only [z9i,z5p,zd7,zd5,zfa,zcp,zk3,zhm,z1v,zd,Option.map_some,zk,z34,z92,get_put',zgl,zce,z08,z4c,z6q,H.next_new,H.next_put,List.getElem?_cons_zero,List.getElem?_cons_succ,Nat.zero_add,Nat.add_zero,Nat.reduceAdd,Nat.reduceLeDiff,Nat.reduceLT,Nat.reduceMul,Nat.reduceSub,Nat.reduceEqDiff,Int.reduceEq,Int.reduceLT,Int.reduceLE,Int.reduceNeg,ze4,z97,zjk,zjw,zhr,zlo,zda,zkf,zcm,znq,zf6,zk7,zcf,zcs,zd6,zfn,zf5,zcr,zg9,z90,zfs,z8w,zhh,zat,zfq,z8r,za5,V.beq,V.beqs,ze6,zm,z0x,zaq,asS,List.length_cons,List.length_nil,Nat.beq_refl,List.all_cons,List.all_nil,Bool.and_true,Bool.and_false,Bool.true_and,Bool.false_and,Bool.not_true,Bool.not_false,Bool.or_false,Bool.false_or,Bool.or_self,Bool.and_self,decide_true,decide_false,if_true,if_false,z07,List.take_succ_cons,List.take_zero,List.drop_succ_cons,List.drop_zero,List.cons_append,List.nil_append,List.set_cons_zero,List.set_cons_succ,reduceCtorEq,fill,repl,opd,zi4,zin,zjo,zjz,zhe,zlz,zfe,zjs,zcz,znv,zf8,zjr,zcw,zhb,finV,z3w,z6u,z48,eqV,zod,z8n,part,z02,Nat.reduceBEq,Nat.beq_eq,Bool.true_or,Bool.or_true] using this
 | false =>
 cases d7:decide (c.kind=7) with
 | true =>
  have d5:decide (c.kind=5)=false:=decide_eq_false (by have:=of_decide_eq_true d7; omega)
  rw[d3,d7,d5] at fin
  cases dh:decide (0<=r.node w c.h) with
  | true =>
   rw[dh] at fin
   simp only[S.z1k,zw_,S.z1a,S.z15,S.z1g,S.z1b,S.z11,S.z19,hcl,d3,d7,d5,n2]
   have:=fin (decide (0<=r.node w c.x)) (by cases decide (0<=r.node w c.x) <;> rfl)
   simpa only [z9i,z5p,zd7,zd5,zfa,zcp,zk3,zhm,z1v,zd,Option.map_some,zk,z34,z92,get_put',zgl,zce,z08,z4c,z6q,H.next_new,H.next_put,List.getElem?_cons_zero,List.getElem?_cons_succ,Nat.zero_add,Nat.add_zero,Nat.reduceAdd,Nat.reduceLeDiff,Nat.reduceLT,Nat.reduceMul,Nat.reduceSub,Nat.reduceEqDiff,Int.reduceEq,Int.reduceLT,Int.reduceLE,Int.reduceNeg,ze4,z97,zjk,zjw,zhr,zlo,zda,zkf,zcm,znq,zf6,zk7,zcf,zcs,zd6,zfn,zf5,zcr,zg9,z90,zfs,z8w,zhh,zat,zfq,z8r,za5,V.beq,V.beqs,ze6,zm,z0x,zaq,asS,List.length_cons,List.length_nil,Nat.beq_refl,List.all_cons,List.all_nil,Bool.and_true,Bool.and_false,Bool.true_and,Bool.false_and,Bool.not_true,Bool.not_false,Bool.or_false,Bool.false_or,Bool.or_self,Bool.and_self,decide_true,decide_false,if_true,if_false,z07,List.take_succ_cons,List.take_zero,List.drop_succ_cons,List.drop_zero,List.cons_append,List.nil_append,List.set_cons_zero,List.set_cons_succ,reduceCtorEq,fill,repl,opd,zi4,zin,zjo,zjz,zhe,zlz,zfe,zjs,zcz,znv,zf8,zjr,zcw,zhb,finV,z3w,z6u,z48,eqV,zod,z8n,part,z02,Nat.reduceBEq,Nat.beq_eq,Bool.true_or,Bool.or_true] using this
  | false =>
   rw[dh] at fin
   simp only[S.z1k,zw_,S.z1a,S.z15,S.z1g,S.z1b,S.z11,S.z19,hcl,d3,d7,d5]
   have:=fin false (by rfl)
   simpa only [z9i,z5p,zd7,zd5,zfa,zcp,zk3,zhm,z1v,zd,Option.map_some,zk,z34,z92,get_put',zgl,zce,z08,z4c,z6q,H.next_new,H.next_put,List.getElem?_cons_zero,List.getElem?_cons_succ,Nat.zero_add,Nat.add_zero,Nat.reduceAdd,Nat.reduceLeDiff,Nat.reduceLT,Nat.reduceMul,Nat.reduceSub,Nat.reduceEqDiff,Int.reduceEq,Int.reduceLT,Int.reduceLE,Int.reduceNeg,ze4,z97,zjk,zjw,zhr,zlo,zda,zkf,zcm,znq,zf6,zk7,zcf,zcs,zd6,zfn,zf5,zcr,zg9,z90,zfs,z8w,zhh,zat,zfq,z8r,za5,V.beq,V.beqs,ze6,zm,z0x,zaq,asS,List.length_cons,List.length_nil,Nat.beq_refl,List.all_cons,List.all_nil,Bool.and_true,Bool.and_false,Bool.true_and,Bool.false_and,Bool.not_true,Bool.not_false,Bool.or_false,Bool.false_or,Bool.or_self,Bool.and_self,decide_true,decide_false,if_true,if_false,z07,List.take_succ_cons,List.take_zero,List.drop_succ_cons,List.drop_zero,List.cons_append,List.nil_append,List.set_cons_zero,List.set_cons_succ,reduceCtorEq,fill,repl,opd,zi4,zin,zjo,zjz,zhe,zlz,zfe,zjs,zcz,znv,zf8,zjr,zcw,zhb,finV,z3w,z6u,z48,eqV,zod,z8n,part,z02,Nat.reduceBEq,Nat.beq_eq,Bool.true_or,Bool.or_true] using this
 | false =>
 cases d5:decide (c.kind=5) with
 | false =>
  rw[d3,d7,d5] at fin
  simp only[S.z1k,zw_,S.z1a,S.z15,S.z1g,S.z1b,S.z11,S.z19,hcl,d3,d7,d5]
  have:=fin (decide (0<=r.node w c.h)) (by cases decide (0<=r.node w c.h) <;> rfl)
  simpa only [z9i,z5p,zd7,zd5,zfa,zcp,zk3,zhm,z1v,zd,Option.map_some,zk,z34,z92,get_put',zgl,zce,z08,z4c,z6q,H.next_new,H.next_put,List.getElem?_cons_zero,List.getElem?_cons_succ,Nat.zero_add,Nat.add_zero,Nat.reduceAdd,Nat.reduceLeDiff,Nat.reduceLT,Nat.reduceMul,Nat.reduceSub,Nat.reduceEqDiff,Int.reduceEq,Int.reduceLT,Int.reduceLE,Int.reduceNeg,ze4,z97,zjk,zjw,zhr,zlo,zda,zkf,zcm,znq,zf6,zk7,zcf,zcs,zd6,zfn,zf5,zcr,zg9,z90,zfs,z8w,zhh,zat,zfq,z8r,za5,V.beq,V.beqs,ze6,zm,z0x,zaq,asS,List.length_cons,List.length_nil,Nat.beq_refl,List.all_cons,List.all_nil,Bool.and_true,Bool.and_false,Bool.true_and,Bool.false_and,Bool.not_true,Bool.not_false,Bool.or_false,Bool.false_or,Bool.or_self,Bool.and_self,decide_true,decide_false,if_true,if_false,z07,List.take_succ_cons,List.take_zero,List.drop_succ_cons,List.drop_zero,List.cons_append,List.nil_append,List.set_cons_zero,List.set_cons_succ,reduceCtorEq,fill,repl,opd,zi4,zin,zjo,zjz,zhe,zlz,zfe,zjs,zcz,znv,zf8,zjr,zcw,zhb,finV,z3w,z6u,z48,eqV,zod,z8n,part,z02,Nat.reduceBEq,Nat.beq_eq,Bool.true_or,Bool.or_true] using this
 | true =>
  rw[d3,d7,d5] at fin
  cases dh:decide (0<=r.node w c.h) with
  | false =>
   rw[dh] at fin
   simp only[S.z1k,zw_,S.z1a,S.z15,S.z1g,S.z1b,S.z11,S.z19,hcl,d3,d7,d5]
   have:=fin false (by rfl)
   simpa only [z9i,z5p,zd7,zd5,zfa,zcp,zk3,zhm,z1v,zd,Option.map_some,zk,z34,z92,get_put',zgl,zce,z08,z4c,z6q,H.next_new,H.next_put,List.getElem?_cons_zero,List.getElem?_cons_succ,Nat.zero_add,Nat.add_zero,Nat.reduceAdd,Nat.reduceLeDiff,Nat.reduceLT,Nat.reduceMul,Nat.reduceSub,Nat.reduceEqDiff,Int.reduceEq,Int.reduceLT,Int.reduceLE,Int.reduceNeg,ze4,z97,zjk,zjw,zhr,zlo,zda,zkf,zcm,znq,zf6,zk7,zcf,zcs,zd6,zfn,zf5,zcr,zg9,z90,zfs,z8w,zhh,zat,zfq,z8r,za5,V.beq,V.beqs,ze6,zm,z0x,zaq,asS,List.length_cons,List.length_nil,Nat.beq_refl,List.all_cons,List.all_nil,Bool.and_true,Bool.and_false,Bool.true_and,Bool.false_and,Bool.not_true,Bool.not_false,Bool.or_false,Bool.false_or,Bool.or_self,Bool.and_self,decide_true,decide_false,if_true,if_false,z07,List.take_succ_cons,List.take_zero,List.drop_succ_cons,List.drop_zero,List.cons_append,List.nil_append,List.set_cons_zero,List.set_cons_succ,reduceCtorEq,fill,repl,opd,zi4,zin,zjo,zjz,zhe,zlz,zfe,zjs,zcz,znv,zf8,zjr,zcw,zhb,finV,z3w,z6u,z48,eqV,zod,z8n,part,z02,Nat.reduceBEq,Nat.beq_eq,Bool.true_or,Bool.or_true] using this
  | true =>
   rw[dh] at fin
   cases ex:decide (c.x=0) with
   | true =>
    rw[ex] at fin
    cases ey:decide (c.y=0) with
    | true =>
     rw[ey] at fin
     simp only[S.z1k,zw_,S.z1a,S.z15,S.z1g,S.z1b,S.z11,S.z19,reduceCtorEq,hcl,d3,d7,d5,ex,ey]
     have:=fin true (by rfl)
     simpa only [z9i,z5p,zd7,zd5,zfa,zcp,zk3,zhm,z1v,zd,Option.map_some,zk,z34,z92,get_put',zgl,zce,z08,z4c,z6q,H.next_new,H.next_put,List.getElem?_cons_zero,List.getElem?_cons_succ,Nat.zero_add,Nat.add_zero,Nat.reduceAdd,Nat.reduceLeDiff,Nat.reduceLT,Nat.reduceMul,Nat.reduceSub,Nat.reduceEqDiff,Int.reduceEq,Int.reduceLT,Int.reduceLE,Int.reduceNeg,ze4,z97,zjk,zjw,zhr,zlo,zda,zkf,zcm,znq,zf6,zk7,zcf,zcs,zd6,zfn,zf5,zcr,zg9,z90,zfs,z8w,zhh,zat,zfq,z8r,za5,V.beq,V.beqs,ze6,zm,z0x,zaq,asS,List.length_cons,List.length_nil,Nat.beq_refl,List.all_cons,List.all_nil,Bool.and_true,Bool.and_false,Bool.true_and,Bool.false_and,Bool.not_true,Bool.not_false,Bool.or_false,Bool.false_or,Bool.or_self,Bool.and_self,decide_true,decide_false,if_true,if_false,z07,List.take_succ_cons,List.take_zero,List.drop_succ_cons,List.drop_zero,List.cons_append,List.nil_append,List.set_cons_zero,List.set_cons_succ,reduceCtorEq,fill,repl,opd,zi4,zin,zjo,zjz,zhe,zlz,zfe,zjs,zcz,znv,zf8,zjr,zcw,zhb,finV,z3w,z6u,z48,eqV,zod,z8n,part,z02,Nat.reduceBEq,Nat.beq_eq,Bool.true_or,Bool.or_true] using this
    | false =>
     rw[ey] at fin
     simp only[S.z1k,zw_,S.z1a,S.z15,S.z1g,S.z1b,S.z11,S.z19,hcl,d3,d7,d5,ex,ey,n3]
     have:=fin (decide (0<=r.node w c.y)) (by cases decide (0<=r.node w c.y) <;> cases decide (0<=r.node w c.x) <;> rfl)
     simpa only [z9i,z5p,zd7,zd5,zfa,zcp,zk3,zhm,z1v,zd,Option.map_some,zk,z34,z92,get_put',zgl,zce,z08,z4c,z6q,H.next_new,H.next_put,List.getElem?_cons_zero,List.getElem?_cons_succ,Nat.zero_add,Nat.add_zero,Nat.reduceAdd,Nat.reduceLeDiff,Nat.reduceLT,Nat.reduceMul,Nat.reduceSub,Nat.reduceEqDiff,Int.reduceEq,Int.reduceLT,Int.reduceLE,Int.reduceNeg,ze4,z97,zjk,zjw,zhr,zlo,zda,zkf,zcm,znq,zf6,zk7,zcf,zcs,zd6,zfn,zf5,zcr,zg9,z90,zfs,z8w,zhh,zat,zfq,z8r,za5,V.beq,V.beqs,ze6,zm,z0x,zaq,asS,List.length_cons,List.length_nil,Nat.beq_refl,List.all_cons,List.all_nil,Bool.and_true,Bool.and_false,Bool.true_and,Bool.false_and,Bool.not_true,Bool.not_false,Bool.or_false,Bool.false_or,Bool.or_self,Bool.and_self,decide_true,decide_false,if_true,if_false,z07,List.take_succ_cons,List.take_zero,List.drop_succ_cons,List.drop_zero,List.cons_append,List.nil_append,List.set_cons_zero,List.set_cons_succ,reduceCtorEq,fill,repl,opd,zi4,zin,zjo,zjz,zhe,zlz,zfe,zjs,zcz,znv,zf8,zjr,zcw,zhb,finV,z3w,z6u,z48,eqV,zod,z8n,part,z02,Nat.reduceBEq,Nat.beq_eq,Bool.true_or,Bool.or_true] using this
   | false =>
    rw[ex] at fin
    cases dx:decide (0<=r.node w c.x) with
    | false =>
     rw[dx] at fin
     simp only[S.z1k,zw_,S.z1a,S.z15,S.z1g,S.z1b,S.z11,S.z19,hcl,d3,d7,d5,ex,n2,dx]
     have:=fin false (by rfl)
     simpa only [z9i,z5p,zd7,zd5,zfa,zcp,zk3,zhm,z1v,zd,Option.map_some,zk,z34,z92,get_put',zgl,zce,z08,z4c,z6q,H.next_new,H.next_put,List.getElem?_cons_zero,List.getElem?_cons_succ,Nat.zero_add,Nat.add_zero,Nat.reduceAdd,Nat.reduceLeDiff,Nat.reduceLT,Nat.reduceMul,Nat.reduceSub,Nat.reduceEqDiff,Int.reduceEq,Int.reduceLT,Int.reduceLE,Int.reduceNeg,ze4,z97,zjk,zjw,zhr,zlo,zda,zkf,zcm,znq,zf6,zk7,zcf,zcs,zd6,zfn,zf5,zcr,zg9,z90,zfs,z8w,zhh,zat,zfq,z8r,za5,V.beq,V.beqs,ze6,zm,z0x,zaq,asS,List.length_cons,List.length_nil,Nat.beq_refl,List.all_cons,List.all_nil,Bool.and_true,Bool.and_false,Bool.true_and,Bool.false_and,Bool.not_true,Bool.not_false,Bool.or_false,Bool.false_or,Bool.or_self,Bool.and_self,decide_true,decide_false,if_true,if_false,z07,List.take_succ_cons,List.take_zero,List.drop_succ_cons,List.drop_zero,List.cons_append,List.nil_append,List.set_cons_zero,List.set_cons_succ,reduceCtorEq,fill,repl,opd,zi4,zin,zjo,zjz,zhe,zlz,zfe,zjs,zcz,znv,zf8,zjr,zcw,zhb,finV,z3w,z6u,z48,eqV,zod,z8n,part,z02,Nat.reduceBEq,Nat.beq_eq,Bool.true_or,Bool.or_true] using this
    | true =>
     rw[dx] at fin
     cases ey:decide (c.y=0) with
     | true =>
      rw[ey] at fin
      simp only[S.z1k,zw_,S.z1a,S.z15,S.z1g,S.z1b,S.z11,S.z19,reduceCtorEq,hcl,d3,d7,d5,ex,n2,dx,ey]
      have:=fin true (by rfl)
      simpa only [z9i,z5p,zd7,zd5,zfa,zcp,zk3,zhm,z1v,zd,Option.map_some,zk,z34,z92,get_put',zgl,zce,z08,z4c,z6q,H.next_new,H.next_put,List.getElem?_cons_zero,List.getElem?_cons_succ,Nat.zero_add,Nat.add_zero,Nat.reduceAdd,Nat.reduceLeDiff,Nat.reduceLT,Nat.reduceMul,Nat.reduceSub,Nat.reduceEqDiff,Int.reduceEq,Int.reduceLT,Int.reduceLE,Int.reduceNeg,ze4,z97,zjk,zjw,zhr,zlo,zda,zkf,zcm,znq,zf6,zk7,zcf,zcs,zd6,zfn,zf5,zcr,zg9,z90,zfs,z8w,zhh,zat,zfq,z8r,za5,V.beq,V.beqs,ze6,zm,z0x,zaq,asS,List.length_cons,List.length_nil,Nat.beq_refl,List.all_cons,List.all_nil,Bool.and_true,Bool.and_false,Bool.true_and,Bool.false_and,Bool.not_true,Bool.not_false,Bool.or_false,Bool.false_or,Bool.or_self,Bool.and_self,decide_true,decide_false,if_true,if_false,z07,List.take_succ_cons,List.take_zero,List.drop_succ_cons,List.drop_zero,List.cons_append,List.nil_append,List.set_cons_zero,List.set_cons_succ,reduceCtorEq,fill,repl,opd,zi4,zin,zjo,zjz,zhe,zlz,zfe,zjs,zcz,znv,zf8,zjr,zcw,zhb,finV,z3w,z6u,z48,eqV,zod,z8n,part,z02,Nat.reduceBEq,Nat.beq_eq,Bool.true_or,Bool.or_true] using this
     | false =>
      rw[ey] at fin
      simp only[S.z1k,zw_,S.z1a,S.z15,S.z1g,S.z1b,S.z11,S.z19,hcl,d3,d7,d5,ex,n2,dx,ey,n3]
      have:=fin (decide (0<=r.node w c.y)) (by cases decide (0<=r.node w c.y) <;> rfl)
      simpa only [z9i,z5p,zd7,zd5,zfa,zcp,zk3,zhm,z1v,zd,Option.map_some,zk,z34,z92,get_put',zgl,zce,z08,z4c,z6q,H.next_new,H.next_put,List.getElem?_cons_zero,List.getElem?_cons_succ,Nat.zero_add,Nat.add_zero,Nat.reduceAdd,Nat.reduceLeDiff,Nat.reduceLT,Nat.reduceMul,Nat.reduceSub,Nat.reduceEqDiff,Int.reduceEq,Int.reduceLT,Int.reduceLE,Int.reduceNeg,ze4,z97,zjk,zjw,zhr,zlo,zda,zkf,zcm,znq,zf6,zk7,zcf,zcs,zd6,zfn,zf5,zcr,zg9,z90,zfs,z8w,zhh,zat,zfq,z8r,za5,V.beq,V.beqs,ze6,zm,z0x,zaq,asS,List.length_cons,List.length_nil,Nat.beq_refl,List.all_cons,List.all_nil,Bool.and_true,Bool.and_false,Bool.true_and,Bool.false_and,Bool.not_true,Bool.not_false,Bool.or_false,Bool.false_or,Bool.or_self,Bool.and_self,decide_true,decide_false,if_true,if_false,z07,List.take_succ_cons,List.take_zero,List.drop_succ_cons,List.drop_zero,List.cons_append,List.nil_append,List.set_cons_zero,List.set_cons_succ,reduceCtorEq,fill,repl,opd,zi4,zin,zjo,zjz,zhe,zlz,zfe,zjs,zcz,znv,zf8,zjr,zcw,zhb,finV,z3w,z6u,z48,eqV,zod,z8n,part,z02,Nat.reduceBEq,Nat.beq_eq,Bool.true_or,Bool.or_true] using this
theorem z02b {h:H} (ok:h.ok) (M:MdAt k h.get B r) (I:RIn k r) {w:Int} (w0:0<=w) (w1:w<k.c) (hn:0<=r.node w c.h) (hf:0<=c.n/\c.n<((r.fl (r.node w c.h)).length:Int)) :
  Ev (C 283 [.ptr B.b 0,.int .i64 w,.agg c.cs] h) fun z=>z.1=.bool (z00e r w c)/\Fr [] h z.2:=by
 refine z0e (af:=F.z64) (by kernel_rfl) rfl ?_
 have hcs:V.agg c.cs=.agg [.int .i64 c.kind,.int .i64 c.n,.int .u64 c.h,.int .u64 c.x,.int .u64 c.y]:=rfl
 rw[hcs,S.z01k]
 simp only[S.z64]
 have A:=AskAt.new ok M c
 have F0:Fr [] h (h.new (.cells [.int .i64 c.kind,.int .i64 c.n,.int .u64 c.h,.int .u64 c.x,.int .u64 c.y] .rw)):=(Fr.refl ok).new _
 generalize (h.new (.cells [.int .i64 c.kind,.int .i64 c.n,.int .u64 c.h,.int .u64 c.x,.int .u64 c.y] .rw))=g at A F0 ⊢
 generalize h.next=q at A ⊢
 have hcl:=A.cl
 have n1:=zh6 A.M w c.h
 have n3:=zh6 A.M w c.y
 rw[if_pos ⟨w0,w1⟩] at n1 n3
 have hfl:=z0ez A.M (r.node w c.h) c.n
 have hnl:r.node w c.h<r.F.length:=by rcases I.node w c.h with e | e <;> omega
 have hfe:r.field (r.node w c.h) c.n=r.fat (r.node w c.h) c.n:=by
  unfold RSt.field
  rw[if_pos ⟨hn,hnl,hf.1,hf.2⟩]
 rw[hfe] at hfl
 simp only[V.beq,zw_,hcl,n1,hfl,n3]
 exact Ev.some ⟨rfl,F0⟩
end
theorem z09y:∀ {l:List Int}{m:List V}{i:Nat} (q:Int) (v:V),i<l.length->l.length=m.length->z07 (z50 l m) (i * 2) [.int .u64 q,v]=z50 (l.set i q) (m.set i v)
 | [],_,i,_,_,h,_=>by simp at h
 | _ :: _,[],i,_,_,_,h=>by simp at h
 | a :: l,b :: m,0,q,v,_,_=>by simp[z50,z07]
 | a :: l,b :: m,i+1,q,v,h1,h2=>by
  have ih:=z09y (l:=l) (m:=m) (i:=i) q v (by simpa using h1) (by simpa using h2)
  rw[show(i+1) * 2=i * 2+2 from by omega]
  simp only[z50,List.set_cons_succ]
  rw[<-ih]
  unfold z07
  simp only[List.length_cons,List.length_nil,List.take_succ_cons,List.cons_append]
  congr 3
theorem z07q:∀ {l:List Int}{m:List V}{i:Nat} (v:V),i<l.length->l.length=m.length->(z50 l m).set (i * 2+1) v=z50 l (m.set i v)
 | [],_,i,_,h,_=>by simp at h
 | _ :: _,[],i,_,_,h=>by simp at h
 | a :: l,b :: m,0,v,_,_=>by simp[z50]
 | a :: l,b :: m,i+1,v,h1,h2=>by
  have ih:=z07q (l:=l) (m:=m) (i:=i) v (by simpa using h1) (by simpa using h2)
  rw[show(i+1) * 2+1=(i * 2+1)+1+1 from by omega]
  simp only[z50,List.set_cons_succ]
  rw[ih]
theorem z0bt {l:List Nat} (h:l.Nodup) {i j:Nat}{a:Nat} (h1:l[i]?=some a) (h2:l[j]?=some a):i=j:=by
 have q1:=z0a h1
 have q2:=z0a h2
 rw[List.getElem?_eq_getElem q1] at h1
 rw[List.getElem?_eq_getElem q2] at h2
 exact(List.getElem_inj (xs:=l) h (i:=i) (j:=j) (h₀:=q1) (h₁:=q2)).mp (by rw[Option.some.inj h1,Option.some.inj h2])
section
variable {k:Cfg}{B:MdB}{r:RSt}
theorem MdAt.nbm {g:Nat->Option Blk} (M:MdAt k g B r) {i:Nat}{v:V} (h:B.ns[i]?=some v) {b:Nat} (hb:b∈v.blk):b∉B.l :=
 M.nn b (by unfold MdB.nb; exact List.mem_flatten.mpr ⟨v.blk,List.mem_map.mpr ⟨v,List.mem_of_getElem? h,rfl⟩,hb⟩)
theorem MdAt.setField {g:H} (ok:g.ok) (M:MdAt k g.get B r) {n i:Nat}{l:List Int} (hl:r.F[n]?=some l) (hi2:i<l.length) (val:Int) :
  ∃bF v bi kk,z0 1 B.xF (.int .i64 (n:Int))=some (.ptr bF n)/\ldB (g.get bF) n=some v/\V.beq v v=true/\z0 1 v (.int .i64 (i:Int))=some (.ptr bi i)/\stB (g.get bi) i [.int .i64 val]=some (.cells ((l.set i val).map (.int .i64)) kk)/\bi∈B.l/\bi<g.next /\
   MdAt k (g.put bi (some (.cells ((l.set i val).map (.int .i64)) kk))).get B { r with F:=r.F.modify n fun l=>l.set i val }:=by
 have hn:=z0a hl
 obtain⟨d1,d2,d3,d4,d5,d6,d7,d8,d9⟩:=M.dist
 obtain⟨f1,f2⟩:=M.fl
 obtain⟨v,hv⟩:∃v,B.vs[n]?=some v:=⟨_,List.getElem?_eq_getElem (by omega)⟩
 obtain⟨bi,hbi⟩:∃b,B.bs[n]?=some b:=⟨_,List.getElem?_eq_getElem (by omega)⟩
 obtain⟨c,kk,rfl,hb,hk,hc⟩:=M.fr n v bi l hv hbi hl
 have hbm:=List.mem_of_getElem? hbi
 have hbl:bi∈B.l:=by simp[MdB.l,hbm]
 have hgF:=M.fo
 obtain⟨bF,hx,hbF⟩:∃bF,B.xF=.sl bF 0 B.vs.length (.op 1)/\g.get bF=some (.cells B.vs (.gr 1)):=by
  obtain⟨hx,h0⟩ | ⟨bF,m,hx,hm,hb⟩:=hgF
  ·rw[h0] at f1; simp at f1; omega
  ·rw[Nat.mul_one] at hm; rw[hm]; exact⟨bF,hx,hb⟩
 have ne:∀b,b≠bi->(g.put bi (some (.cells ((l.set i val).map (.int .i64)) kk))).get b=g.get b:=fun b h=>zf h
 refine⟨bF,.sl bi 0 l.length c,bi,kk,?_,?_,z0dy _ _ _ _,zs hi2,?_,hbl,ok.lt hb,?_⟩
 ·rw[hx]; exact zs (by omega)
 ·rw[hbF,z08,hv]; rfl
 ·rw[z02j hb hk (by rw[List.length_map]; exact hi2) rfl,z00h]
 ·refine⟨M.nd,M.nn,by rw[ne _ (fun e=>d1 (by rw[e]; simp[hbm]))]; exact M.own,M.fo.congr fun b hb=>ne b (fun e=>d9 b hb (e ▸ hbm)),⟨by rw[List.length_modify]; exact f1,by rw[List.length_modify]; exact f2⟩,fun j u b m h1 h2 h3 => ?_,by rw[ne _ (fun e=>d2 (by rw[e]; simp[hbm]))]; exact M.ho,M.hl,fun j m' hm'=>by rw[ne _ (fun e=>d7 m' (List.mem_of_getElem? hm') (by rw[e]; simp[hbm]))]; exact M.hm j m' hm',by rw[ne _ (fun e=>d3 (by rw[e]; simp[hbm]))]; exact M.wo,M.wl,fun j u m h1 h2=>(M.wr j u m h1 h2).congr fun b hb=>ne b (fun e=>M.nbm h1 hb (by rw[e]; exact hbl)),by rw[ne _ (fun e=>d4 (by rw[e]; simp[hbm]))]; exact M.gv⟩
  rcases z06d h3 with ⟨e,m',h5,h6⟩ | ⟨e,h5⟩
  ·subst e
   rw[hv] at h1; rw[hbi] at h2; rw[hl] at h5
   cases h1; cases h2; cases h5
   exact⟨c,kk,by rw[h6,List.length_set],by rw[zq,h6],hk,by rw[h6,List.length_set]; exact hc⟩
  ·obtain⟨c',kk',e1,e2,e3⟩:=M.fr j u b m h1 h2 h5
   exact⟨c',kk',e1,by rw[ne b (fun q=>e (z0bt d8 hbi (q ▸ h2)))]; exact e2,e3⟩
theorem MdAt.del {g:H} (ok:g.ok) (M:MdAt k g.get B r) (I:RIn k r) {w:Int} (w0:0<=w) (w1:w<k.c) (q:Int) :
  ∃(i m:Nat),z0 1 (.sl B.bh 0 k.C (.op 1)) (.int .i64 w)=some (.ptr B.bh i)/\ldB (g.get B.bh) i=some (.map m)/\∃g',g.mapDel .int (.map m) (.int .u64 q)=some g'/\Fr B.l g g'/\MdAt k g'.get B { r with Hs:=r.Hs.filter fun x=>!(x.is w q) }:=by
 obtain⟨i,m,rfl,hm,i1,l1,e1⟩:=M.map w0 w1
 obtain⟨d1,d2,d3,d4,d5,d6,d7,d8,d9⟩:=M.dist
 have hmm:m∈B.ms:=List.mem_of_getElem? hm
 have hs:g.mapDel .int (.map m) (.int .u64 q)=some (g.put m (some (.map (z4z (r.Hs.filter fun x=>!(x.is (i:Int) q)) i)))):=by
  simp only[H.mapDel,zsr,e1]
  rw[z072 _ _ _ I.nd]
 have ne:∀b,b≠m->(g.put m (some (.map (z4z (r.Hs.filter fun x=>!(x.is (i:Int) q)) i)))).get b=g.get b:=fun b h=>zf h
 refine⟨i,m,i1,l1,_,hs,(Fr.refl ok).put (.inl (by simp[MdB.l,hmm])) (ok.lt e1) _,M.nd,M.nn,by rw[ne _ (fun e=>d1 (by rw[e]; simp[hmm]))]; exact M.own,M.fo.congr fun b hb=>ne b (fun e=>d7 m hmm (by rw[<-e]; simp[hb])),M.fl,fun j v b l h1 h2 h3 => ?_,by rw[ne _ (fun e=>d2 (by rw[e]; simp[hmm]))]; exact M.ho,M.hl,fun j m' hm' => ?_,by rw[ne _ (fun e=>d3 (by rw[e]; simp[hmm]))]; exact M.wo,M.wl,fun j v l h1 h2=>(M.wr j v l h1 h2).congr fun b hb=>ne b (fun e=>M.nbm h1 hb (by rw[e]; simp[MdB.l,hmm])),by rw[ne _ (fun e=>d4 (by rw[e]; simp[hmm]))]; exact M.gv⟩
 ·obtain⟨c,kk,e,hb,rr⟩:=M.fr j v b l h1 h2 h3
  exact⟨c,kk,e,by rw[ne b (fun e=>d7 m hmm (by rw[<-e]; simp[List.mem_of_getElem? h2]))]; exact hb,rr⟩
 ·by_cases hji:j=i
  ·subst hji
   rw[hm] at hm'
   cases hm'
   exact zq _ _ _
  ·have hne:m'≠m:=fun e=>hji (z0bt d5 (e ▸ hm') hm)
   rw[ne m' hne,M.hm j m' hm']
   have:z4z (r.Hs.filter fun x=>!(x.is (i:Int) q)) j=z4z r.Hs j:=by
    unfold z4z
    rw[List.filter_filter]
    congr 1
    apply List.filter_congr
    intro x _
    by_cases hx:x.c=(j:Int)
    ·have:x.is (i:Int) q=false:=by unfold HoldR.is; rw[hx]; simp; omega
     rw[this]; simp
    ·simp[hx]
   rw[this]
theorem MdAt.setWalk {g:H} (ok:g.ok) (M:MdAt k g.get B r) {i:Nat} (hi:i<k.C) (q:Int) {v:V}{l:List Int} (R:RowO .i64 g.get v l) (hv:∀b∈v.blk,b∉B.l) :
  stB (g.get B.bw) (i * 2) [.int .u64 q,v]=some (.cells (z50 (r.Wk.set i q) (B.ns.set i v)) B.kb)/\MdAt k (g.put B.bw (some (.cells (z50 (r.Wk.set i q) (B.ns.set i v)) B.kb))).get { B with ns:=B.ns.set i v } { r with Wk:=r.Wk.set i q,Cm:=r.Cm.set i l }:=by
 obtain⟨d1,d2,d3,d4,d5,d6,d7,d8,d9⟩:=M.dist
 obtain⟨w1,w2,w3⟩:=M.wl
 have hlen:(z50 r.Wk B.ns).length=k.C * 2:=by rw[zys (by omega),w1]
 have ov:=R.slv.one
 constructor
 ·have h1:decide (B.kb=Bk.ro)=false:=B.kb_ro
  have h2:[V.int .u64 q,v].all V.one=true:=by simp only[List.all_cons,List.all_nil,ov]; rfl
  have h3:decide (i * 2+[V.int .u64 q,v].length<=(z50 r.Wk B.ns).length)=true:=decide_eq_true (by rw[hlen]; show i * 2+2<=_; omega)
  rw[M.wo,z6q,h1,h2,h3]
  show some (Blk.cells (z07 _ _ _) _)=_
  rw[z09y q v (by omega) (by omega)]
 ·have ne:∀b,b≠B.bw->(g.put B.bw (some (.cells (z50 (r.Wk.set i q) (B.ns.set i v)) B.kb))).get b=g.get b:=fun b h=>zf h
  have hbw:B.bw∈B.l:=by simp[MdB.l]
  refine⟨M.nd,?_,by rw[ne _ (fun e=>d1 (by rw[e]; simp))]; exact M.own,M.fo.congr fun b hb=>ne b (fun e=>d3 (by rw[<-e]; simp[hb])),M.fl,fun j u b m h1 h2 h3 => ?_,by rw[ne _ (fun e=>d2 (by rw[e]; simp))]; exact M.ho,M.hl,fun j m' hm'=>by rw[ne _ (fun e=>d3 (by rw[<-e]; simp[List.mem_of_getElem? hm']))]; exact M.hm j m' hm',zq _ _ _,⟨by rw[List.length_set]; exact w1,by rw[List.length_set]; exact w2,by rw[List.length_set]; exact w3⟩,fun j u m h1 h2 => ?_,by rw[ne _ (fun e=>d3 (by rw[<-e]; simp))]; exact M.gv⟩
  ·intro b hb
   unfold MdB.nb at hb
   obtain⟨lb,h1,h2⟩:=List.mem_flatten.mp hb
   obtain⟨u,h3,rfl⟩:=List.mem_map.mp h1
   rcases znl h3 with rfl | h3
   ·exact hv b h2
   ·exact M.nn b (by unfold MdB.nb; exact List.mem_flatten.mpr ⟨u.blk,List.mem_map.mpr ⟨u,h3,rfl⟩,h2⟩)
  ·obtain⟨c,kk,e,hb,rr⟩:=M.fr j u b m h1 h2 h3
   exact⟨c,kk,e,by rw[ne b (fun e=>d3 (by rw[<-e]; simp[List.mem_of_getElem? h2]))]; exact hb,rr⟩
  ·rcases zkv h1 with ⟨rfl,rfl⟩ | ⟨hne,h1⟩
   ·rcases zkv h2 with ⟨_,rfl⟩ | ⟨hne,_⟩
    ·exact R.congr fun b hb=>ne b (fun e=>hv b hb (by rw[e]; exact hbw))
    ·exact absurd rfl hne
   ·rcases zkv h2 with ⟨e,_⟩ | ⟨_,h2⟩
    ·exact absurd e hne
    ·exact(M.wr j u m h1 h2).congr fun b hb=>ne b (fun e=>M.nbm h1 hb (by rw[e]; exact hbw))
theorem MdAt.give {g:H} (ok:g.ok) (M:MdAt k g.get B r) {q:Int} (hq:r.Gv.contains q=false) :
  ∃g',g.mapSet .int (.map B.gm) (.int .u64 q) (.int .i64 1)=some g'/\Fr B.l g g'/\g'.next=g.next/\MdAt k g'.get B { r with Gv:=r.Gv ++ [q] }:=by
 obtain⟨d1,d2,d3,d4,d5,d6,d7,d8,d9⟩:=M.dist
 have hs1:g.mapSet .int (.map B.gm) (.int .u64 q) (.int .i64 1)=some (g.put B.gm (some (.map (ze3 (r.Gv ++ [q]))))):=by
  simp only[H.mapSet,zsr,M.gv]
  rw[zye (k:=.int .u64 q) (.int .i64 1) (by rw[zq5,hq]; rfl)]
  unfold ze3
  rw[List.map_append]; rfl
 have ne:∀b,b≠B.gm->(g.put B.gm (some (.map (ze3 (r.Gv ++ [q]))))).get b=g.get b:=fun b h=>zf h
 refine⟨_,hs1,(Fr.refl ok).put (.inl (by simp[MdB.l])) (ok.lt M.gv) _,rfl,M.nd,M.nn,by rw[ne _ (fun e=>d1 (by rw[e]; simp))]; exact M.own,M.fo.congr fun b hb=>ne b (fun e=>d4 (by rw[<-e]; simp[hb])),M.fl,fun j v b l h1 h2 h3 => ?_,by rw[ne _ (fun e=>d2 (by rw[e]; simp))]; exact M.ho,M.hl,fun j m' hm'=>by rw[ne _ (fun e=>d4 (by rw[<-e]; simp[List.mem_of_getElem? hm']))]; exact M.hm j m' hm',by rw[ne _ (fun e=>d3 (by rw[e]; simp))]; exact M.wo,M.wl,fun j v l h1 h2=>(M.wr j v l h1 h2).congr fun b hb=>ne b (fun e=>M.nbm h1 hb (by rw[e]; simp[MdB.l])),zq _ _ _⟩
 obtain⟨c,kk,e,hb,rr⟩:=M.fr j v b l h1 h2 h3
 exact⟨c,kk,e,by rw[ne b (fun e=>d4 (by rw[<-e]; simp[List.mem_of_getElem? h2]))]; exact hb,rr⟩
theorem MdAt.newNode {g:H} (ok:g.ok) (M:MdAt k g.get B r) {n b1:Nat} (hb1:g.get b1=some (.cells ((List.replicate n (-1)).map (.int .i64)) .rw)) (hn1:b1∉B.l) (hn2:b1∉B.nb) (hF:r.F.length<=100000) :
  ∃x' g2,(g.new (.cells [.sl b1 0 n (.ex n)] .rw)).append 1 24 B.xF (.sl g.next 0 1 (.ex 1))=some (x',g2)/\g2.get B.b=g.get B.b/\x'.one=true/\x'.cells=[x']/\B.b<g2.next /\
   let g3:=g2.put B.b (some (.cells [.int .i64 k.s,.int .i64 k.a,.int .i64 k.c,.int .i64 k.hd,.int .i64 k.g,.int .i64 k.st,x',.sl B.bh 0 k.C (.op 1),.sl B.bw 0 k.C (B.cw k.C),.map B.gm] .rw))
   Fr B.l g g3/\MdAt k g3.get { B with xF:=x',vs:=B.vs ++ [.sl b1 0 n (.ex n)],bs:=B.bs ++ [b1] } { r with F:=r.F ++ [List.replicate n (-1)] }/\∀b∈x'.blk,g.next<=b:=by
 obtain⟨d1,d2,d3,d4,d5,d6,d7,d8,d9⟩:=M.dist
 have Fa:Fr [] g (g.new (.cells [.sl b1 0 n (.ex n)] .rw)):=(Fr.refl ok).new _
 obtain⟨f1,f2⟩:=M.fl
 obtain⟨x',g2,e2,F2,G2,hx',hne⟩:=Grown.push Fa.ok (bytes:=24) (M.fo.fr ok Fa (by simp)) (ze g _) (e:=1) rfl rfl (by decide) ⟨by decide,by decide⟩ (by omega)
 have F02:Fr B.xF.blk g g2:=(Fa.mono (by simp)).trans' F2
 have hxm:∀b∈B.xF.blk,b∈B.l:=fun b hb=>by simp[MdB.l,hb]
 have hxn:∀b∈x'.blk,g.next<=b:=fun b hb=>Nat.le_trans Fa.le (hx' b hb)
 have hbx:B.b∉B.xF.blk:=fun q=>d1 (by simp[q])
 have hbg:g2.get B.b=g.get B.b:=F02.same _ (ok.lt M.own) hbx
 have hbl2:B.b<g2.next:=F02.lt (ok.lt M.own)
 have F23:Fr [B.b] g2 (g2.put B.b (some (.cells [.int .i64 k.s,.int .i64 k.a,.int .i64 k.c,.int .i64 k.hd,.int .i64 k.g,.int .i64 k.st,x',.sl B.bh 0 k.C (.op 1),.sl B.bw 0 k.C (B.cw k.C),.map B.gm] .rw))):=(Fr.refl F2.ok).put (.inl (by simp)) hbl2 _
 have hb1l:b1<g.next:=ok.lt hb1
 have lt:∀b∈B.l,b<g.next:=by
  intro b hb
  simp only[MdB.l,List.mem_cons,List.mem_append] at hb
  rcases hb with rfl | rfl | rfl | rfl | hb | hb | hb
  ·exact ok.lt M.own
  ·exact ok.lt M.ho
  ·exact ok.lt M.wo
  ·exact ok.lt M.gv
  ·obtain⟨i,hi⟩:=List.mem_iff_getElem?.mp hb
   exact ok.lt (M.hm i b hi)
  ·exact M.fo.lt ok b hb
  ·obtain⟨i,hi⟩:=List.mem_iff_getElem?.mp hb
   have:=z0a hi
   obtain⟨v,hv⟩:∃v,B.vs[i]?=some v:=⟨_,List.getElem?_eq_getElem (by omega)⟩
   obtain⟨l,hl⟩:∃l,r.F[i]?=some l:=⟨_,List.getElem?_eq_getElem (by omega)⟩
   obtain⟨c,kk,_,hb,_⟩:=M.fr i v b l hv hi hl
   exact ok.lt hb
 have ne:∀b,b<g.next->b≠B.b->b∉B.xF.blk->(g2.put B.b (some (.cells [.int .i64 k.s,.int .i64 k.a,.int .i64 k.c,.int .i64 k.hd,.int .i64 k.g,.int .i64 k.st,x',.sl B.bh 0 k.C (.op 1),.sl B.bw 0 k.C (B.cw k.C),.map B.gm] .rw))).get b=g.get b:=fun b h1 h2 h3=>by
  rw[zf h2,F02.same b h1 h3]
 have hb1b:b1≠B.b:=fun e=>hn1 (by rw[e]; simp[MdB.l])
 have hb1x:b1∉B.xF.blk:=fun q=>hn1 (hxm b1 q)
 refine⟨x',g2,e2,hbg,G2.slv.one,G2.slv.cells,hbl2,?_⟩
 show Fr B.l g (g2.put B.b (some (.cells [.int .i64 k.s,.int .i64 k.a,.int .i64 k.c,.int .i64 k.hd,.int .i64 k.g,.int .i64 k.st,x',.sl B.bh 0 k.C (.op 1),.sl B.bw 0 k.C (B.cw k.C),.map B.gm] .rw)))/\MdAt k (g2.put B.b (some (.cells [.int .i64 k.s,.int .i64 k.a,.int .i64 k.c,.int .i64 k.hd,.int .i64 k.g,.int .i64 k.st,x',.sl B.bh 0 k.C (.op 1),.sl B.bw 0 k.C (B.cw k.C),.map B.gm] .rw))).get { B with xF:=x',vs:=B.vs ++ [.sl b1 0 n (.ex n)],bs:=B.bs ++ [b1] } { r with F:=r.F ++ [List.replicate n (-1)] }/\_
 refine⟨(F02.mono (fun b hb=>.inl (hxm b hb))).trans F23 (fun b hb=>.inl (by simp only[List.mem_singleton] at hb; rw[hb]; simp[MdB.l])),?_,hxn⟩
 have nxl:∀b∈x'.blk,b∉B.l:=fun b hb q=>by have:=hxn b hb; have:=lt b q; omega
 -- the one block of a row that grew
 have hx1:x'.blk.Nodup:=by
  rcases G2 with ⟨e,_⟩ | ⟨b,n',e,_⟩
  ·rw[e]; simp[V.blk]
  ·rw[e]; simp[V.blk]
 have key:∀b,b∈(x'.blk ++ (B.bs ++ [b1]))->b∈x'.blk\/b∈B.bs\/b=b1:=fun b hb=>by
  simpa [List.mem_append] using hb
 have notIn:∀b,b∈B.l->b∉B.bs->b∉x'.blk ++ (B.bs ++ [b1]):=fun b h1 h2 q=>by
  rcases key b q with q | q | q
  ·exact nxl b q h1
  ·exact h2 q
  ·exact hn1 (q ▸ h1)
 refine⟨?_,?_,zq _ _ _,?_,⟨by rw[List.length_append,List.length_append,f1]; rfl,by rw[List.length_append,List.length_append,f2]; rfl⟩,?_,?_,M.hl,?_,?_,M.wl,?_,?_⟩
 ·show(B.b :: B.bh :: B.bw :: B.gm :: (B.ms ++ (x'.blk ++ (B.bs ++ [b1])))).Nodup
  have mb:B.b∈B.l:=by simp[MdB.l]
  have mh:B.bh∈B.l:=by simp[MdB.l]
  have mw:B.bw∈B.l:=by simp[MdB.l]
  have mg:B.gm∈B.l:=by simp[MdB.l]
  have h1:B.b∉x'.blk ++ (B.bs ++ [b1]):=notIn _ mb fun q=>d1 (by simp[q])
  have h2:B.bh∉x'.blk ++ (B.bs ++ [b1]):=notIn _ mh fun q=>d2 (by simp[q])
  have h3:B.bw∉x'.blk ++ (B.bs ++ [b1]):=notIn _ mw fun q=>d3 (by simp[q])
  have h4:B.gm∉x'.blk ++ (B.bs ++ [b1]):=notIn _ mg fun q=>d4 (by simp[q])
  rw[List.nodup_cons,List.nodup_cons,List.nodup_cons,List.nodup_cons,List.nodup_append,List.nodup_append,List.nodup_append]
  refine⟨?_,?_,?_,?_,d5,⟨hx1,⟨d8,by simp,?_⟩,?_⟩,?_⟩
  ·intro q
   rcases List.mem_cons.mp q with q | q
   ·exact d1 (by rw[q]; simp)
   rcases List.mem_cons.mp q with q | q
   ·exact d1 (by rw[q]; simp)
   rcases List.mem_cons.mp q with q | q
   ·exact d1 (by rw[q]; simp)
   rcases List.mem_append.mp q with q | q
   ·exact d1 (by simp[q])
   ·exact h1 q
  ·intro q
   rcases List.mem_cons.mp q with q | q
   ·exact d2 (by rw[q]; simp)
   rcases List.mem_cons.mp q with q | q
   ·exact d2 (by rw[q]; simp)
   rcases List.mem_append.mp q with q | q
   ·exact d2 (by simp[q])
   ·exact h2 q
  ·intro q
   rcases List.mem_cons.mp q with q | q
   ·exact d3 (by rw[q]; simp)
   rcases List.mem_append.mp q with q | q
   ·exact d3 (by simp[q])
   ·exact h3 q
  ·intro q
   rcases List.mem_append.mp q with q | q
   ·exact d4 (by simp[q])
   ·exact h4 q
  ·intro u hu v hv e
   simp only[List.mem_singleton] at hv
   exact hn1 (by rw[<-hv,<-e]; simp[MdB.l,hu])
  ·intro u hu v hv e
   have:v∈B.bs\/v=b1:=by simpa using hv
   rcases this with q | q
   ·exact nxl u hu (by rw[e]; simp[MdB.l,q])
   ·have h1:=hxn u hu
    rw[e,q] at h1; omega
  ·intro u hu v hv e
   exact notIn u (by simp[MdB.l,hu]) (fun q=>d7 u hu (by simp[q])) (by rw[e]; exact hv)
 ·intro b hb q
  have hb':b∈B.nb:=hb
  have q':b∈B.b :: B.bh :: B.bw :: B.gm :: (B.ms ++ (x'.blk ++ (B.bs ++ [b1]))):=q
  have hblt:b<g.next:=by
   unfold MdB.nb at hb'
   obtain⟨lb,h1,h2⟩:=List.mem_flatten.mp hb'
   obtain⟨u,h3,rfl⟩:=List.mem_map.mp h1
   obtain⟨i,hi⟩:=List.mem_iff_getElem?.mp h3
   have:=z0a hi
   obtain⟨w1,w2,w3⟩:=M.wl
   obtain⟨l,hl⟩:∃l,r.Cm[i]?=some l:=⟨_,List.getElem?_eq_getElem (by omega)⟩
   exact(M.wr i u l hi hl).lt ok b h2
  have hno:=M.nn b hb'
  simp only[List.mem_cons,List.mem_append,List.not_mem_nil,or_false] at q'
  rcases q' with q | q | q | q | q | q | q | q
  ·exact hno (by rw[q]; simp[MdB.l])
  ·exact hno (by rw[q]; simp[MdB.l])
  ·exact hno (by rw[q]; simp[MdB.l])
  ·exact hno (by rw[q]; simp[MdB.l])
  ·exact hno (by simp[MdB.l,q])
  ·have:=hxn b q; omega
  ·exact hno (by simp[MdB.l,q])
  ·exact hn2 (q ▸ hb')
 ·exact G2.congr fun b hb=>zf (fun e=>nxl b hb (by rw[e]; simp[MdB.l]))
 ·intro i v b l h1 h2 h3
  have h1':(B.vs ++ [V.sl b1 0 n (.ex n)])[i]?=some v:=h1
  have h2':(B.bs ++ [b1])[i]?=some b:=h2
  have h3':(r.F ++ [List.replicate n (-1:Int)])[i]?=some l:=h3
  by_cases hi:i<r.F.length
  ·rw[List.getElem?_append_left (by omega)] at h1' h2' h3'
   obtain⟨c,kk,e,hb,rr⟩:=M.fr i v b l h1' h2' h3'
   have hbm:=List.mem_of_getElem? h2'
   exact⟨c,kk,e,by rw[ne b (ok.lt hb) (fun e=>d1 (by rw[<-e]; simp[hbm])) (fun q=>d9 b q hbm)]; exact hb,rr⟩
  ·have hie:i=r.F.length:=by
    have:=z0a h3'
    rw[List.length_append,List.length_singleton] at this
    omega
   subst hie
   rw[<-f1,List.getElem?_append_right (Nat.le_refl _),Nat.sub_self] at h1'
   rw[<-f2,List.getElem?_append_right (Nat.le_refl _),Nat.sub_self] at h2'
   rw[List.getElem?_append_right (Nat.le_refl _),Nat.sub_self] at h3'
   cases h1'; cases h2'; cases h3'
   exact⟨.ex n,.rw,by rw[List.length_replicate],by rw[ne b1 hb1l hb1b hb1x]; exact hb1,by simp,.inr ⟨n,rfl,by rw[List.length_replicate]; exact Nat.le_refl _⟩⟩
 ·rw[ne _ (lt _ (by simp[MdB.l])) (fun e=>d1 (by rw[<-e]; simp)) (fun q=>d2 (by simp[q]))]; exact M.ho
 ·intro i m hm
  have hmm:m∈B.ms:=List.mem_of_getElem? hm
  rw[ne _ (lt _ (by simp[MdB.l,hmm])) (fun e=>d1 (by rw[<-e]; simp[hmm])) (fun q=>d7 m hmm (by simp[q]))]
  exact M.hm i m hm
 ·rw[ne _ (lt _ (by simp[MdB.l])) (fun e=>d1 (by rw[<-e]; simp)) (fun q=>d3 (by simp[q]))]; exact M.wo
 ·intro i v l h1 h2
  have R:=M.wr i v l h1 h2
  exact R.congr fun b hb=>ne b (R.lt ok b hb) (fun e=>M.nbm h1 hb (by rw[e]; simp[MdB.l])) (fun q=>M.nbm h1 hb (hxm b q))
 ·rw[ne _ (lt _ (by simp[MdB.l])) (fun e=>d1 (by rw[<-e]; simp)) (fun q=>d4 (by simp[q]))]; exact M.gv
end
structure MdB.ext (B B':MdB) (h:H):Prop where
 b:B'.b=B.b
 l:∀x∈B'.l,x∈B.l\/h.next<=x
 n:∀x∈B'.nb,x∈B.nb\/h.next<=x
theorem MdB.ext.refl (B:MdB) (h:H):B.ext B h:=⟨rfl,fun _ q=>.inl q,fun _ q=>.inl q⟩
theorem MdB.ext.up {B B':MdB}{h h':H} (E:B.ext B' h') (le:h.next<=h'.next):B.ext B' h:=⟨E.b,fun x q=>(E.l x q).imp id fun w=>by omega,fun x q=>(E.n x q).imp id fun w=>by omega⟩
section
variable {k:Cfg}{B:MdB}{r:RSt}{c:CallR}{a:AnsR}
theorem MdAt.lt {g:H} (M:MdAt k g.get B r) (ok:g.ok):∀b∈B.l,b<g.next:=by
 intro b hb
 obtain⟨f1,f2⟩:=M.fl
 simp only[MdB.l,List.mem_cons,List.mem_append] at hb
 rcases hb with rfl | rfl | rfl | rfl | hb | hb | hb
 ·exact ok.lt M.own
 ·exact ok.lt M.ho
 ·exact ok.lt M.wo
 ·exact ok.lt M.gv
 ·obtain⟨i,hi⟩:=List.mem_iff_getElem?.mp hb
  exact ok.lt (M.hm i b hi)
 ·exact M.fo.lt ok b hb
 ·obtain⟨i,hi⟩:=List.mem_iff_getElem?.mp hb
  have:=z0a hi
  obtain⟨v,hv⟩:∃v,B.vs[i]?=some v:=⟨_,List.getElem?_eq_getElem (by omega)⟩
  obtain⟨l,hl⟩:∃l,r.F[i]?=some l:=⟨_,List.getElem?_eq_getElem (by omega)⟩
  obtain⟨c,kk,_,hb,_⟩:=M.fr i v b l hv hi hl
  exact ok.lt hb
theorem MdAt.ltn {g:H} (M:MdAt k g.get B r) (ok:g.ok):∀b∈B.nb,b<g.next:=by
 intro b hb
 unfold MdB.nb at hb
 obtain⟨lb,h1,h2⟩:=List.mem_flatten.mp hb
 obtain⟨u,h3,rfl⟩:=List.mem_map.mp h1
 obtain⟨i,hi⟩:=List.mem_iff_getElem?.mp h3
 have:=z0a hi
 obtain⟨w1,w2,w3⟩:=M.wl
 obtain⟨l,hl⟩:∃l,r.Cm[i]?=some l:=⟨_,List.getElem?_eq_getElem (by omega)⟩
 exact(M.wr i u l hi hl).lt ok b h2
structure DnAt (k:Cfg) (B:MdB) (r:RSt) (c:CallR) (a:AnsR) (g:H) (q pa:Nat):Prop where
 A:AskAt k B r c g q
 an:g.get pa=some (.cells [.int .i64 a.err,.int .u64 a.h,.bool a.yes] .rw)
 no:q∉B.l/\pa∉B.l
theorem DnAt.fr {g g':H}{q pa:Nat} (D:DnAt k B r c a g q pa) (F:Fr [] g g'):DnAt k B r c a g' q pa:=⟨D.A.fr F,F.get D.A.ok D.an (by simp),D.no⟩
def SwM (k:Cfg) (B:MdB) (g:H) (r':RSt) (z:AX × List V × H):Prop:=z.1=.normal/\z.2.1=S.z0m/\Fr B.l g z.2.2/\∃B',MdAt k z.2.2.get B' r'/\B.ext B' g
theorem z0l1 {g:H}{q pa:Nat} (D:DnAt k B r c a g q pa) (I:RIn k r) (hF:r.F.length<=100000) (hk:c.kind=1) {w nh:Int} (w0:0<=w) (w1:w<k.c) {n:Nat} (hcn:c.n=(n:Int)) (hn:n<=8) (hf:r.Gv.contains a.h=false) (gv ys:Bool) :
  Ev (S.z0g W (.ptr B.b 0) w (.ptr q 0) (.ptr pa 0) nh gv ys g) (SwM k B g (z0j r w c a)):=by
 have hd:z0j r w c a=({ r with F:=r.F ++ [List.replicate n (-1)] }:RSt).gives w a.h r.F.length:=by
  unfold z0j; rw[hk,hcn]; simp
 rw[hd]
 have ok:=D.A.ok
 have M:=D.A.M
 have hcl:=D.A.cl
 rw[hk,hcn] at hcl
 have l6:=M.l6
 have F8:Fr [] g (g.new (.cells [.int .i64 (-1)] .rw)):=(Fr.refl ok).new _
 obtain⟨⟨v,g9⟩,e9,F9,rfl,hb9⟩:=z0fv F8.ok (ze g _) hn
 dsimp only at F9 hb9
 have hn8:(g.new (.cells [.int .i64 (-1)] .rw)).next=g.next+1:=rfl
 rw[hn8] at e9 hb9
 have F09:Fr [] g g9:=F8.trans' F9
 have M9:=M.fr0 ok F09
 have l69:=M9.l6
 have hlt:=M.lt ok
 have hltn:=M.ltn ok
 obtain⟨x',g2,e2,hbg,ox,ox2,hbl,F3,M3,hx⟩:=M9.newNode F09.ok hb9 (fun q=>by have:=hlt _ q; omega) (fun q=>by have:=hltn _ q; omega) hF
 have oxF:=M.fo.slv.beq
 have own9:=M9.own
 have hbown:g2.get B.b=some (.cells [.int .i64 k.s,.int .i64 k.a,.int .i64 k.c,.int .i64 k.hd,.int .i64 k.g,.int .i64 k.st,B.xF,.sl B.bh 0 k.C (.op 1),.sl B.bw 0 k.C (B.cw k.C),.map B.gm] .rw):=hbg.trans own9
 have oF1:=M.fo.slv.one
 have I1:=I.newF n
 have hpa3:((g2.put B.b (some (.cells [.int .i64 k.s,.int .i64 k.a,.int .i64 k.c,.int .i64 k.hd,.int .i64 k.g,.int .i64 k.st,x',.sl B.bh 0 k.C (.op 1),.sl B.bw 0 k.C (B.cw k.C),.map B.gm] .rw)))).get pa=some (.cells [.int .i64 a.err,.int .u64 a.h,.bool a.yes] .rw):=F3.get F09.ok (F09.get ok D.an (by simp)) D.no.2
 have npb:¬pa=B.b:=fun e=>D.no.2 (by rw[e]; simp[MdB.l])
 have hpa2:g2.get pa=some (.cells [.int .i64 a.err,.int .u64 a.h,.bool a.yes] .rw):=by rw[zf npb] at hpa3; exact hpa3
 have hxl:lenSl x'=some (r.F.length+1):=by
  have:=M3.rows.len
  have h2:(r.F ++ [List.replicate n (-1:Int)]).length=r.F.length+1:=by rw[List.length_append]; rfl
  have h3:lenSl x'=some (r.F ++ [List.replicate n (-1:Int)]).length:=this
  rw[h2] at h3; exact h3
 have wl:wr .i64 (((r.F.length+1:Nat):Int)-1)=((r.F.length:Nat):Int):=by
  rw[wr64 (by omega) (by omega)]; omega
 obtain⟨g4,e4,F4,M4,hn4⟩:=z028 F3.ok M3 I1 (w:=w) (q:=a.h) (n:=(r.F.length:Nat)) w0 w1 hf
 dsimp only at e4
 have d1:decide ((1:Int)=1)=true:=rfl
 simp only[S.z0g,zw_,Nat.reduceAdd,Nat.reduceLeDiff,Int.reduceNeg,z07,reduceCtorEq,fill,repl,opd,hcl,l6,e9,l69,oxF,e2,hbown,ox,ox2,npb,hpa2,hxl,wl,e4]
 have F4':Fr B.l g g4:=by
  refine((F09.mono (by simp)).trans F3 (fun b hb=>.inl hb)).trans F4 (fun b hb => ?_)
  have hb':b∈B.b :: B.bh :: B.bw :: B.gm :: (B.ms ++ (x'.blk ++ (B.bs ++ [g.next+1]))):=hb
  simp only[List.mem_cons,List.mem_append,List.not_mem_nil,or_false] at hb'
  have hge:=F09.le
  rcases hb' with e | e | e | e | e | e | e | e
  ·exact .inl (by rw[e]; simp[MdB.l])
  ·exact .inl (by rw[e]; simp[MdB.l])
  ·exact .inl (by rw[e]; simp[MdB.l])
  ·exact .inl (by rw[e]; simp[MdB.l])
  ·exact .inl (by simp[MdB.l,e])
  ·exact .inr (by have:=hx b e; omega)
  ·exact .inl (by simp[MdB.l,e])
  ·exact .inr (by omega)
 refine Ev.some ⟨rfl,rfl,F4',_,M4,rfl,fun b hb => ?_,fun b hb=>.inl hb⟩
 have hb':b∈B.b :: B.bh :: B.bw :: B.gm :: (B.ms ++ (x'.blk ++ (B.bs ++ [g.next+1]))):=hb
 simp only[List.mem_cons,List.mem_append,List.not_mem_nil,or_false] at hb'
 have hge:=F09.le
 rcases hb' with e | e | e | e | e | e | e | e
 ·exact .inl (by rw[e]; simp[MdB.l])
 ·exact .inl (by rw[e]; simp[MdB.l])
 ·exact .inl (by rw[e]; simp[MdB.l])
 ·exact .inl (by rw[e]; simp[MdB.l])
 ·exact .inl (by simp[MdB.l,e])
 ·exact .inr (by have:=hx b e; omega)
 ·exact .inl (by simp[MdB.l,e])
 ·exact .inr (by omega)
theorem SwM.same {g:H} (M:MdAt k g.get B r) (ok:g.ok):SwM k B g r (.normal,S.z0m,g):=⟨rfl,rfl,.refl ok,B,M,.refl B g⟩
theorem z0kd {g:H}{q pa:Nat} (D:DnAt k B r c a g q pa) (I:RIn k r) {w:Int} (w0:0<=w) (w1:w<k.c) {n i:Nat}{l:List Int} (hl:r.F[n]?=some l) (hi:i<l.length) (hn:r.node w c.h=(n:Int)) (hcn:c.n=(i:Int)) (gv ys:Bool) (hg:gv=z25 r w c) (hy:ys=yesR r w c) (hf:z25 r w c=true->r.Gv.contains a.h=false) (hk:c.kind=2\/c.kind=3\/c.kind=4\/c.kind=5) :
  Ev (S.z0g W (.ptr B.b 0) w (.ptr q 0) (.ptr pa 0) (r.node w c.h) gv ys g) (SwM k B g (z0j r w c a)):=by
 have ok:=D.A.ok
 have M:=D.A.M
 have hcl:=D.A.cl
 rw[hcn] at hcl
 have l6:=M.l6
 have han:=D.an
 have nx:=zh6 M w c.x
 rw[if_pos ⟨w0,w1⟩] at nx
 have oxF:=M.fo.slv.beq
 rw[hn]
 rcases hk with hk | hk | hk | hk
 ·rw[hk] at hcl
  cases hgg:gv with
  | false =>
   have hd:z0j r w c a=r:=by
    unfold z0j
    rw[<-hg,hgg,hk]; simp
   rw[hd]
   simp only[S.z0g,zw_,Nat.reduceAdd,Nat.reduceLeDiff,Int.reduceEq,Int.reduceNeg,z07,fill,repl,opd,hcl]
   exact Ev.some (SwM.same M ok)
  | true =>
   have hd:z0j r w c a=r.gives w a.h (r.fat (r.node w c.h) c.n):=by
    unfold z0j
    rw[<-hg,hgg,hk]; simp
   have hfl:r.fl (r.node w c.h)=l:=by
    unfold RSt.fl; rw[hn,Int.toNat_natCast,hl]; rfl
   obtain⟨f,hf'⟩:∃f,l[i]?=some f:=⟨_,List.getElem?_eq_getElem hi⟩
   have hfat:r.fat (r.node w c.h) c.n=f:=by
    unfold RSt.fat; rw[hfl,hcn,Int.toNat_natCast,hf']; rfl
   rw[hd,hfat]
   obtain⟨b,y,ix,ly,Y⟩:=M.rows.at hl
   obtain⟨b2,o2,i2,l2⟩:=Y.at hf'
   obtain⟨g',e1,F1,M1,hn1⟩:=z028 ok M I (w:=w) (q:=a.h) (n:=f) w0 w1 (hf (by rw[<-hg,hgg]))
   simp only[S.z0g,zw_,Nat.reduceAdd,Nat.reduceLeDiff,Int.reduceEq,Int.reduceNeg,z07,fill,repl,opd,hcl,han,l6,ix,ly,i2,l2,e1]
   exact Ev.some ⟨rfl,rfl,F1,B,M1,.refl B g⟩
 ·rw[hk] at hcl
  have hd:z0j r w c a={ r with F:=r.F.modify n fun l=>l.set i (r.node w c.x) }:=by
   unfold z0j RSt.setF
   rw[hk,hn,hcn]; simp
  rw[hd]
  obtain⟨bF,v,bi,kk,i1,l1,vb,i2,s2,hm,hlt,M1⟩:=M.setField ok hl hi (r.node w c.x)
  simp only[S.z0g,zw_,Nat.reduceAdd,Nat.reduceLeDiff,Int.reduceEq,Int.reduceNeg,V.beq,z07,fill,repl,opd,hcl,l6,i1,l1,nx,vb,oxF,i2,s2]
  exact Ev.some ⟨rfl,rfl,(Fr.refl ok).put (.inl hm) hlt _,B,M1,.refl B g⟩
 ·rw[hk] at hcl
  have hd:z0j r w c a={ r with F:=r.F.modify n fun l=>l.set i (-1) }:=by
   unfold z0j RSt.setF
   rw[hk,hn,hcn]; simp
  rw[hd]
  obtain⟨bF,v,bi,kk,i1,l1,vb,i2,s2,hm,hlt,M1⟩:=M.setField ok hl hi (-1)
  simp only[S.z0g,zw_,Nat.reduceAdd,Nat.reduceLeDiff,Int.reduceEq,Int.reduceNeg,z07,fill,repl,opd,hcl,l6,i1,l1,i2,s2]
  exact Ev.some ⟨rfl,rfl,(Fr.refl ok).put (.inl hm) hlt _,B,M1,.refl B g⟩
 ·rw[hk] at hcl
  cases hyy:ys with
  | false =>
   have hd:z0j r w c a=r:=by
    unfold z0j
    rw[<-hy,hyy,hk]; simp
   rw[hd]
   simp only[S.z0g,zw_,Nat.reduceAdd,Nat.reduceLeDiff,Int.reduceEq,Int.reduceNeg,z07,fill,repl,opd,hcl]
   exact Ev.some (SwM.same M ok)
  | true =>
   have hd:z0j r w c a={ r with F:=r.F.modify n fun l=>l.set i (r.node w c.x) }:=by
    unfold z0j RSt.setF
    rw[<-hy,hyy,hk,hn,hcn]; simp
   rw[hd]
   obtain⟨bF,v,bi,kk,i1,l1,vb,i2,s2,hm,hlt,M1⟩:=M.setField ok hl hi (r.node w c.x)
   simp only[S.z0g,zw_,Nat.reduceAdd,Nat.reduceLeDiff,Int.reduceEq,Int.reduceNeg,V.beq,z07,fill,repl,opd,hcl,l6,i1,l1,nx,vb,oxF,i2,s2]
   exact Ev.some ⟨rfl,rfl,(Fr.refl ok).put (.inl hm) hlt _,B,M1,.refl B g⟩
theorem z07s {r r':RSt} (h:r.F=r'.F):∀(d i:Nat) (l:List Int),r.reach d i l=r'.reach d i l
 | 0,_,_=>rfl
 | d+1,i,l=>by
  have hfl:∀n,r.fl n=r'.fl n:=fun n=>by unfold RSt.fl; rw[h]
  rw[RSt.reach,RSt.reach]
  cases l[i]? with
  | none=>rfl
  | some n =>
   have:r.nexts l (r.fl n)=r'.nexts l (r'.fl n):=by rw[hfl]; rfl
   simp only[this,z07s h d]
theorem z0ce {r r':RSt} (h:r.F=r'.F) (n:Int):r.reached n=r'.reached n:=by
 unfold RSt.reached
 rw[h,z07s h]
theorem z0hc {e:Nat}{x:V}{lo hi mx:Option V}{b o n:Nat}{c:Cap} (h:zgq e x lo hi mx=some (.sl b o n c)):b∈x.blk:=by
 unfold zgq at h
 cases x with
 | sl b' o' n' c' =>
  simp only[V.blk,List.mem_singleton]
  cases c' <;> simp only at h <;> (repeat' split at h) <;> simp_all
 | nilsl=>simp only at h; (repeat' split at h) <;> simp_all
 | _=>simp at h
theorem z0ds {B:MdB}{i:Nat}{v:V}{x:Nat} (h:x∈({ B with ns:=B.ns.set i v }:MdB).nb):x∈B.nb\/x∈v.blk:=by
 unfold MdB.nb at h ⊢
 obtain⟨lb,h1,h2⟩:=List.mem_flatten.mp h
 obtain⟨u,h3,rfl⟩:=List.mem_map.mp h1
 rcases znl h3 with rfl | h3
 ·exact .inr h2
 ·exact .inl (List.mem_flatten.mpr ⟨u.blk,List.mem_map.mpr ⟨u,h3,rfl⟩,h2⟩)
theorem z0ki {g:H}{q pa:Nat} (D:DnAt k B r c a g q pa) (I:RIn k r) (B1:r.small) {w:Int} (w0:0<=w) (w1:w<k.c) (gv ys:Bool) (hn:c.kind=8->∃n:Nat,r.node w c.h=(n:Int)/\n<r.F.length) (hf:c.kind=8\/c.kind=9->r.Gv.contains a.h=false) (h9:c.kind=9->r.come w≠[]) (hu:U64 a.h) (hk:6<=c.kind/\c.kind<=10) :
  Ev (S.z0g W (.ptr B.b 0) w (.ptr q 0) (.ptr pa 0) (r.node w c.h) gv ys g) (SwM k B g (z0j r w c a)):=by
 have ok:=D.A.ok
 have M:=D.A.M
 have hcl:=D.A.cl
 have han:=D.an
 have l7:=M.l7
 have l8:=M.l8
 have l9:=M.l9
 obtain⟨i,v,hwi,hv,hW,hCm,iw,lw,lv,R⟩:=M.walk w0 w1
 have hi:i<k.C:=by have:=z0a hW; have:=M.wl.1; omega
 have hbw:B.bw∈B.l:=by simp[MdB.l]
 by_cases k6:c.kind=6
 ·rw[k6] at hcl
  have hd:z0j r w c a={ r with Hs:=r.Hs.filter fun x=>!(x.is w c.h) }:=by unfold z0j; rw[k6]; simp
  rw[hd]
  obtain⟨j,m,i1,l1,g',e1,F1,M1⟩:=M.del ok I w0 w1 c.h
  simp only[S.z0g,zw_,Nat.reduceAdd,Nat.reduceLeDiff,Int.reduceEq,Int.reduceNeg,z07,fill,repl,opd,hcl,l7,i1,l1,e1]
  exact Ev.some ⟨rfl,rfl,F1,B,M1,.refl B g⟩
 by_cases k7:c.kind=7
 ·rw[k7] at hcl
  have hd:z0j r w c a=r:=by unfold z0j; rw[k7]; simp
  rw[hd]
  simp only[S.z0g,zw_,Nat.reduceAdd,Nat.reduceLeDiff,Int.reduceEq,Int.reduceNeg,z07,fill,repl,opd,hcl]
  exact Ev.some (SwM.same M ok)
 by_cases k8:c.kind=8
 ·rw[k8] at hcl
  obtain⟨n,en,hnl⟩:=hn k8
  have hd:z0j r w c a={ r with Gv:=r.Gv ++ [a.h],Wk:=r.Wk.set i a.h,Cm:=r.Cm.set i (r.reached (n:Int)) }:=by
   unfold z0j; rw[k8,en,hwi]; simp
  rw[hd,en]
  obtain⟨g1,e1,F1,hn1,M1⟩:=M.give ok (hf (.inl k8))
  have l81:=M1.l8
  have han1:=F1.get ok han D.no.2
  have I1:RIn k { r with Gv:=r.Gv ++ [a.h] }:=⟨I.wk,I.cm,I.f,fun x hx=>by have:=I.hs x hx; exact⟨this.1,this.2.1,List.mem_append_left _ this.2.2.1,this.2.2.2⟩,I.nd,I.come,I.wu,fun x hx=>by
   rcases List.mem_append.mp hx with h | h
   ·exact I.gu x h
   ·simp only[List.mem_singleton] at h; subst h; exact hu⟩
  obtain⟨⟨u,g2⟩,e2,F2,R2,hub⟩:=z0a6 (k:=k) (B:=B) (r:={ r with Gv:=r.Gv ++ [a.h] }) F1.ok M1 I1 B1.f B1.l hnl
  dsimp only at F2 R2 hub
  have erc:({ r with Gv:=r.Gv ++ [a.h] }:RSt).reached (n:Int)=r.reached (n:Int):=z0ce (r:={ r with Gv:=r.Gv ++ [a.h] }) (r':=r) rfl _
  rw[erc] at R2
  have M2:=M1.fr0 F1.ok F2
  have l82:=M2.l8
  have han2:=F2.get F1.ok han1 (by simp)
  have hlt:=M1.lt F1.ok
  obtain⟨s3,M3⟩:=M2.setWalk F2.ok hi a.h R2 (fun b hb q=>by have:=hub b hb; have:=hlt b q; omega)
  have ou:=R2.slv
  have ou1:=ou.one
  have ou2:=ou.box
  have bwl:B.bw<g2.next:=F2.ok.lt M2.wo
  simp only[S.z0g,zw_,Nat.reduceAdd,Nat.reduceLeDiff,Int.reduceEq,Int.reduceNeg,V.beq,z07,fill,repl,opd,hcl,l9,han,e1,l81,han1,e2,l82,han2,iw,ou2,s3]
  refine Ev.some ⟨rfl,rfl,((F1.trans F2 (by simp)).put (.inl hbw) bwl _),_,M3,rfl,fun x hx=>.inl hx,fun x hx => ?_⟩
  rcases z0ds hx with q | q
  ·exact .inl q
  ·exact .inr (by have:=hub x q; omega)
 by_cases k9:c.kind=9
 ·rw[k9] at hcl
  cases hcome:r.come w with
  | nil=>exact absurd hcome (h9 k9)
  | cons x xs =>
   have hd:z0j r w c a={ (r.gives w a.h x) with Cm:=r.Cm.set i xs }:=by
    unfold z0j
    rw[hcome,k9,hwi]; simp
   rw[hd]
   rw[hcome] at R
   obtain⟨b2,o2,i2,l2⟩:=R.at (i:=0) (w:=x) rfl
   have i2:z0 1 v (.int .i64 0)=some (.ptr b2 o2):=i2
   obtain⟨v',sl,R'⟩:=R.tail
   obtain⟨g1,e1,F1,M1,hn1⟩:=z028 ok M I (w:=w) (q:=a.h) (n:=x) w0 w1 (hf (.inr k9))
   have l81:=M1.l8
   have R1:=M1.wr i v (x :: xs) hv (by rw[show(r.gives w a.h x).Cm=r.Cm from rfl,hCm,hcome])
   obtain⟨v'',sl1,R1'⟩:=R1.tail
   have hvv:v''=v':=by rw[sl] at sl1; exact(Option.some.inj sl1).symm
   subst hvv
   obtain⟨e5,e6⟩:=z00w hW hv
   have lv1:ldB (g1.get B.bw) (i * 2+1)=some v:=by
    have e6':(z50 (r.gives w a.h x).Wk B.ns)[i * 2+1]?=some v:=e6
    rw[M1.wo,z08,e6']; simp only[R.slv.one]
   have hvb:∀b∈v''.blk,b∈v.blk:=by
    intro b hb
    rcases R with ⟨_,h0⟩ | ⟨bb,o,cc,kk,cs,hx,_⟩
    ·cases h0
    ·rw[hx] at sl ⊢
     rcases R' with ⟨e,_⟩ | ⟨b',o',c',k',cs',e,hb',_⟩
     ·rw[e] at hb; cases hb
     ·rw[e] at hb sl
      simp only[V.blk,List.mem_singleton] at hb ⊢
      subst hb
      -- a slice of a slice stands in its block
      have:=z0hc sl
      simpa [V.blk] using this
   have hW1:r.Wk.set i (r.walk w)=r.Wk:=by
    apply List.ext_getElem?
    intro j
    by_cases hj:i=j
    ·subst hj; rw[List.getElem?_set_self (z0a hW),hW]
    ·rw[List.getElem?_set_ne hj]
   obtain⟨s3,M3⟩:=M1.setWalk F1.ok hi (r.walk w) R1' (fun b hb=>M.nbm hv (hvb b hb))
   have hset:(r.gives w a.h x).Wk.set i (r.walk w)=r.Wk:=hW1
   rw[hset] at s3 M3
   have ov:=R1'.slv
   have ov1:=ov.one
   have ov2:=ov.cells
   have hlw:(z50 r.Wk B.ns).length=k.C * 2:=by have:=M.wl; rw[zys (by omega),this.1]
   have s4:stB (g1.get B.bw) (i * 2+1) [v'']=some (.cells (z50 r.Wk (B.ns.set i v'')) B.kb):=by
    have:=M.wl
    rw[z02j M1.wo B.kb_ne (by show i * 2+1<(z50 r.Wk B.ns).length; rw[hlw]; omega) ov1]
    have:(z50 (r.gives w a.h x).Wk B.ns).set (i * 2+1) v''=z50 r.Wk (B.ns.set i v''):=z07q (l:=r.Wk) (m:=B.ns) v'' (by omega) (by omega)
    rw[this]
   have bwl:B.bw<g1.next:=F1.ok.lt M1.wo
   simp only[S.z0g,zw_,Nat.reduceAdd,Nat.reduceLeDiff,Int.reduceEq,Int.reduceNeg,z07,fill,repl,opd,hcl,han,l8,iw,lv,i2,l2,e1,l81,lv1,sl,ov2,s4]
   refine Ev.some ⟨rfl,rfl,F1.put (.inl hbw) bwl _,{ B with ns:=B.ns.set i v'' },M3,rfl,fun x hx=>.inl hx,fun y hy => ?_⟩
   rcases z0ds hy with q | q
   ·exact .inl q
   ·exact .inl (by unfold MdB.nb; exact List.mem_flatten.mpr ⟨v.blk,List.mem_map.mpr ⟨v,List.mem_of_getElem? hv,rfl⟩,hvb y q⟩)
 ·have k10:c.kind=10:=by omega
  rw[k10] at hcl
  have hd:z0j r w c a={ r with Wk:=r.Wk.set i 0,Cm:=r.Cm.set i [] }:=by unfold z0j; rw[k10,hwi]; simp
  rw[hd]
  obtain⟨s3,M3⟩:=M.setWalk ok hi 0 (v:=.nilsl) (l:=[]) (.inl ⟨rfl,rfl⟩) (by simp[V.blk])
  have bwl:B.bw<g.next:=ok.lt M.wo
  simp only[S.z0g,zw_,Nat.reduceAdd,Nat.reduceLeDiff,Int.reduceEq,Int.reduceNeg,z07,fill,repl,opd,hcl,l8,iw,s3]
  refine Ev.some ⟨rfl,rfl,(Fr.refl ok).put (.inl hbw) bwl _,_,M3,rfl,fun x hx=>.inl hx,fun y hy => ?_⟩
  rcases z0ds hy with q | q
  ·exact .inl q
  ·simp[V.blk] at q
end
theorem Sub.none {g0:Nat->Option Blk}{h:H} (sb:Sub g0 h.get) (ok:h.ok) {n:Nat} (hn:h.next<=n):g0 n=none:=by
 cases hg:g0 n with
 | none=>rfl
 | some x=>have:=sb.lt ok hg; omega
section
variable {g0:Nat->Option Blk}{h:H}{k:Cfg}{s:StV}{r:RSt}{c:CallR}{a:AnsR}{g:H}{p q pa po:Nat}
theorem z0e3 (X:DxAt g0 h k s r c a g p q pa po) (I:RIn k r) (B:r.small) (ka:k.a<=100000) {w:Int} (w0:0<=w) (w1:w<k.c) (he:errR k r w c=0) :
  Ev (S.z9k W w (.ptr p 0) (.ptr q 0) (.ptr pa 0) (.ptr po 0) (r.node w c.h) (z25 r w c) (yesR r w c) false g) (Fin' g0 h k (z0j r w c a) true):=by
 have ok:=X.D.E.ok
 have sbg:=X.sb.fr0 X.hok X.F
 obtain⟨⟨v,g1⟩,e1,t,n0,n1,n2,n3,n4,n5,rfl,F1,T,hn0,hn5⟩:=z0fn (k:=k) ok sbg X.Z0 B
 dsimp only at F1 T hn5
 have lN:=X.D.E.lN
 have Z:=T.at (sbg.fr0 ok F1)
 have F2:Fr [] g1 (g1.new (.cells [.int .i64 0,.int .i64 0,.int .i64 0,.int .i64 0,.int .i64 0,.int .i64 0,.nilsl,.nilsl,.nilsl,.nilsl,.nilsl] .rw)):=(Fr.refl F1.ok).new _
 have hT0:=ze g1 (.cells [.int .i64 0,.int .i64 0,.int .i64 0,.int .i64 0,.int .i64 0,.int .i64 0,.nilsl,.nilsl,.nilsl,.nilsl,.nilsl] .rw)
 have hst:stB ((g1.new (.cells [.int .i64 0,.int .i64 0,.int .i64 0,.int .i64 0,.int .i64 0,.int .i64 0,.nilsl,.nilsl,.nilsl,.nilsl,.nilsl] .rw)).get g1.next) 0 [V.int .i64 k.s,.int .i64 k.a,.int .i64 k.c,.int .i64 k.hd,.int .i64 k.g,.int .i64 k.st,t.f,t.h,t.w,t.c,t.g]=some (.cells [V.int .i64 k.s,.int .i64 k.a,.int .i64 k.c,.int .i64 k.hd,.int .i64 k.g,.int .i64 k.st,t.f,t.h,t.w,t.c,t.g] .rw):=by
  rw[hT0]; exact zz5 rfl (zzx k Z)
 have hs2:(g1.new (.cells [.int .i64 0,.int .i64 0,.int .i64 0,.int .i64 0,.int .i64 0,.int .i64 0,.nilsl,.nilsl,.nilsl,.nilsl,.nilsl] .rw)).st 11 (.ptr g1.next 0) (t.v k)=some ((g1.new (.cells [.int .i64 0,.int .i64 0,.int .i64 0,.int .i64 0,.int .i64 0,.int .i64 0,.nilsl,.nilsl,.nilsl,.nilsl,.nilsl] .rw)).put g1.next (some (.cells [V.int .i64 k.s,.int .i64 k.a,.int .i64 k.c,.int .i64 k.hd,.int .i64 k.g,.int .i64 k.st,t.f,t.h,t.w,t.c,t.g] .rw))):=by
  rw[z92]
  show(Option.map _ (stB _ 0 [V.int .i64 k.s,.int .i64 k.a,.int .i64 k.c,.int .i64 k.hd,.int .i64 k.g,.int .i64 k.st,t.f,t.h,t.w,t.c,t.g]))=_
  rw[hst]; rfl
 simp only[S.z9k,z34,lN,zd,z02,e1,hs2]
 have F3:Fr [] g ((g1.new (.cells [.int .i64 0,.int .i64 0,.int .i64 0,.int .i64 0,.int .i64 0,.int .i64 0,.nilsl,.nilsl,.nilsl,.nilsl,.nilsl] .rw)).put g1.next (some (.cells [V.int .i64 k.s,.int .i64 k.a,.int .i64 k.c,.int .i64 k.hd,.int .i64 k.g,.int .i64 k.st,t.f,t.h,t.w,t.c,t.g] .rw))):=(F1.trans' F2).put (.inr F1.le) (Nat.lt_succ_self _) _
 have hcs:=zq (g1.new (.cells [.int .i64 0,.int .i64 0,.int .i64 0,.int .i64 0,.int .i64 0,.int .i64 0,.nilsl,.nilsl,.nilsl,.nilsl,.nilsl] .rw)) g1.next (some (.cells [V.int .i64 k.s,.int .i64 k.a,.int .i64 k.c,.int .i64 k.hd,.int .i64 k.g,.int .i64 k.st,t.f,t.h,t.w,t.c,t.g] .rw))
 have T3:TSt k g0 ((g1.new (.cells [.int .i64 0,.int .i64 0,.int .i64 0,.int .i64 0,.int .i64 0,.int .i64 0,.nilsl,.nilsl,.nilsl,.nilsl,.nilsl] .rw)).put g1.next (some (.cells [V.int .i64 k.s,.int .i64 k.a,.int .i64 k.c,.int .i64 k.hd,.int .i64 k.g,.int .i64 k.st,t.f,t.h,t.w,t.c,t.g] .rw))).get n0 n1 n2 n3 n4 n5 t r:=T.congr fun b h1 h2=>by
  rw[zf (by omega),z0z (by omega)]
 obtain⟨cs,u1,_⟩:=X.D.ou
 have lp:=ok.lt X.D.E.st
 have lq:=ok.lt X.D.E.cl
 have la:=ok.lt X.D.an
 have lo:=ok.lt u1
 have hp:=X.lo
 have A:SwAt g0 g k s r c a ((g1.new (.cells [.int .i64 0,.int .i64 0,.int .i64 0,.int .i64 0,.int .i64 0,.int .i64 0,.nilsl,.nilsl,.nilsl,.nilsl,.nilsl] .rw)).put g1.next (some (.cells [V.int .i64 k.s,.int .i64 k.a,.int .i64 k.c,.int .i64 k.hd,.int .i64 k.g,.int .i64 k.st,t.f,t.h,t.w,t.c,t.g] .rw))) p q pa po g1.next n0 n1 n2 n3 n4 n5 t :=
  ⟨X.D.fr F3,ok,sbg,X.Z0,F3,T3,hcs,hn0,hn5,by omega,by omega,by omega,by omega,lo,X.sb.none X.hok hp.1⟩
 refine(z0fa A I B ka w0 w1 he).mono ?_
 rintro⟨_,g'⟩ ⟨t',rfl,F',Z'⟩
 dsimp only at F' Z'
 refine⟨t',rfl,X.F.trans F' (fun b hb=>.inr (by simp only[List.mem_singleton] at hb; omega)),Z'.sub fun b x hb => ?_⟩
 have hge:=X.F.le
 unfold ug at hb ⊢
 by_cases h1:b<g.next
 ·rw[if_pos h1] at hb
  rw[if_pos (X.sb.lt X.hok hb)]; exact hb
 ·rw[if_neg h1] at hb
  rw[if_neg (by omega)]; exact hb
def ok13 (r:RSt) (w:Int) (c:CallR) (a:AnsR):Bool:=decide (a.err=0) && (a.yes == yesR r w c) && (if z25 r w c then r.fresh a.h else decide (a.h=0))
theorem z0ev (X:DxAt g0 h k s r c a g p q pa po) (B:r.small) (w nh:Int) :
  Ev (S.z31 W w (.ptr p 0) (.ptr q 0) (.ptr pa 0) (.ptr po 0) nh (z25 r w c) (yesR r w c) g) fun z=>z.1=.normal/\z.2.1=S.z1e (.int .i64 w) (.ptr p 0) (.ptr q 0) (.ptr pa 0) (.ptr po 0) (.int .i64 nh) (.bool (z25 r w c)) (.bool (yesR r w c)) (.bool (!ok13 r w c a))/\Fr [] g z.2.2:=by
 have han:=X.D.an
 have lN:=X.D.E.lN
 have F0:Fr [] g g:=.refl X.D.E.ok
 unfold ok13
 cases d0:decide (a.err=0) with
 | false =>
  simp only[S.z31,zw_,Nat.reduceAdd,eqV,han,d0]
  exact Ev.some ⟨rfl,rfl,F0⟩
 | true =>
  cases dy:(a.yes == yesR r w c) with
  | false =>
   simp only[S.z31,zw_,Nat.reduceAdd,eqV,han,d0,dy]
   exact Ev.some ⟨rfl,rfl,F0⟩
  | true =>
   cases dg:z25 r w c with
   | false =>
    simp only[S.z31,zw_,eqV,han,d0,dy,Bool.false_eq_true]
    exact Ev.some ⟨rfl,rfl,F0⟩
   | true =>
    obtain⟨⟨v,g1⟩,e1,rfl,F1⟩:=z0ch (k:=k) X.D.E.ok X.D.E.Z.g B.g a.h
    dsimp only at F1
    cases df:r.fresh a.h with
    | true =>
     rw[df] at e1
     simp only[S.z31,zw_,Nat.reduceAdd,eqV,han,lN,d0,dy,e1]
     exact Ev.some ⟨rfl,rfl,F1⟩
    | false =>
     rw[df] at e1
     simp only[S.z31,zw_,Nat.reduceAdd,eqV,han,lN,d0,dy,e1]
     exact Ev.some ⟨rfl,rfl,F1⟩
theorem z0fh (X:DxAt g0 h k s r c a g p q pa po) (I:RIn k r) (B:r.small) (ka:k.a<=100000) {w:Int} (w0:0<=w) (w1:w<k.c) (he:errR k r w c=0) (h4:a.err≠4) :
  Ev ((S.za4 W (S.z9r (.int .i64 w) (.ptr p 0) (.ptr q 0) (.ptr pa 0) (.ptr po 0) (.int .i64 (r.node w c.h)) (.bool (z25 r w c)) (.bool (yesR r w c))) g).bind fun z=>S.zd3 W z.1 z.2.1 z.2.2) (Fin' g0 h k (doR k r w c a) (okR k r w c a)):=by
 have hok:okR k r w c a=ok13 r w c a:=by
  unfold okR ok13
  rw[if_neg (by omega),if_neg (by rw[he]; simp),if_neg h4]
  have:(a.yes == yesR r w c)=decide (a.yes=yesR r w c):=by cases a.yes <;> cases yesR r w c <;> rfl
  rw[this]
 rw[S.zvh]
 refine Ev.bind (z0ev X B w (r.node w c.h)) ?_
 rintro⟨_,_,g1⟩ ⟨rfl,rfl,F1⟩
 dsimp only at F1 ⊢
 rw[S.ztb]
 have X1:=X.fr F1
 cases ho:ok13 r w c a with
 | true =>
  have ha:a.err=0:=by
   unfold ok13 at ho
   simp only[Bool.and_eq_true,decide_eq_true_eq] at ho
   exact ho.1.1
  have hd:doR k r w c a=z0j r w c a:=by
   unfold doR zln
   rw[hok,ho,he,ha]; rfl
  rw[hd,hok,ho]
  exact z0e3 X1 I B ka w0 w1 he
 | false =>
  have hd:doR k r w c a=r:=by
   unfold doR zln
   rw[hok,ho]; rfl
  rw[hd,hok,ho]
  have lN:=X1.D.E.lN
  unfold StV.v at lN
  have hst:=X1.st
  simp only[S.z9k,zw_,Nat.reduceAdd,Nat.reduceLeDiff,finV,z3w,z6u,z48,lN,hst]
  exact Ev.some (X1.fin false)
end
section
variable {k:Cfg}{B:MdB}{r:RSt}{c:CallR}{a:AnsR}
def MdOut (k:Cfg) (B:MdB) (h:H) (b:Bool) (r':RSt) (z:V × H):Prop:=z.1=.bool b/\Fr B.l h z.2/\∃B',MdAt k z.2.get B' r'/\B.ext B' h
theorem MdOut.same {h g:H} (ok:h.ok) (M:MdAt k h.get B r) (F:Fr [] h g) (b:Bool):MdOut k B h b r (.bool b,g):=⟨rfl,F.mono (by simp),B,M.fr0 ok F,.refl B h⟩
theorem MdOut.up {h g:H}{b:Bool}{r':RSt}{z:V × H} (F:Fr [] h g) (O:MdOut k B g b r' z):MdOut k B h b r' z:=by
 obtain⟨h1,h2,B',h3,h4⟩:=O
 exact⟨h1,(F.mono (by simp)).trans h2 (fun b hb=>.inl hb),B',h3,h4.up F.le⟩
theorem z0jq {q:Int} (h:r.fresh q=true):r.Gv.contains q=false:=by
 unfold RSt.fresh at h
 cases hc:r.Gv.contains q with
 | false=>rfl
 | true=>rw[hc] at h; cases h
theorem z0gt {g:H}{q pa:Nat} (D:DnAt k B r c a g q pa) (I:RIn k r) (Bs:r.small) (ka:k.a<=8) (hu:U64 a.h) {w:Int} (w0:0<=w) (w1:w<k.c) (he:errR k r w c=0) (hfr:z25 r w c=true->r.fresh a.h=true) :
  Ev ((S.zjv W (S.zki (.ptr B.b 0) (.int .i64 w) (.ptr q 0) (.ptr pa 0) (.int .i64 (r.node w c.h)) (.bool (z25 r w c)) (.bool (yesR r w c))) g).bind fun p0=>S.zme W p0.1 p0.2.1 p0.2.2) (MdOut k B g true (z0j r w c a)):=by
 have E:=z00x he
 have hr:=E.rng
 have hf:z25 r w c=true->r.Gv.contains a.h=false:=fun hg=>z0jq (hfr hg)
 rw[S.z01y]
 have key:Ev (S.z0g W (.ptr B.b 0) w (.ptr q 0) (.ptr pa 0) (r.node w c.h) (z25 r w c) (yesR r w c) g) (SwM k B g (z0j r w c a)):=by
  by_cases k1:c.kind=1
  ·obtain⟨h1,h2,_⟩:=E.new k1
   exact z0l1 D I Bs.f k1 w0 w1 (n:=c.n.toNat) (by omega) (by omega) (hf (by unfold z25; rw[decide_eq_true k1]; rfl)) _ _
  by_cases kf:c.kind=2\/c.kind=3\/c.kind=4\/c.kind=5
  ·obtain⟨n,hn,hF⟩:=I.flAt (E.node (by omega) (by omega))
   obtain⟨h1,h2⟩:=E.fld (by omega) (by omega)
   exact z0kd D I w0 w1 hF (i:=c.n.toNat) (by omega) hn (by omega) _ _ rfl rfl hf kf
  ·refine z0ki D I Bs w0 w1 _ _ (fun k8 => ?_) (fun h=>hf ?_) (fun h9=>(E.next h9).1) hu (by omega)
   ·obtain⟨n,hn,hF⟩:=I.flAt (E.node (by omega) (by omega))
    exact⟨n,hn,z0a hF⟩
   ·unfold z25
    rcases h with h | h
    ·rw[h]; simp
    ·rw[h]; simp
 refine Ev.bind key ?_
 rintro⟨_,_,g'⟩ ⟨rfl,rfl,F',B',M',E'⟩
 dsimp only at F' M' E' ⊢
 rw[S.z00d]
 exact Ev.some ⟨rfl,F',B',M',E'⟩
theorem z0ha {g:H}{q pa:Nat} (D:DnAt k B r c a g q pa) (I:RIn k r) (Bs:r.small) (ka:k.a<=8) (hu:U64 a.h) {w:Int} (w0:0<=w) (w1:w<k.c) (he:errR k r w c=0) (ha:a.err=0) :
  Ev ((S.zkg W (S.zkq (.ptr B.b 0) (.int .i64 w) (.ptr q 0) (.ptr pa 0) (.int .i64 (r.node w c.h)) (.bool (z25 r w c)) (.bool (yesR r w c))) g).bind fun p0=>S.zm6 W p0.1 p0.2.1 p0.2.2) (MdOut k B g (okR k r w c a) (doR k r w c a)):=by
 have hok:okR k r w c a=ok13 r w c a:=by
  unfold okR ok13
  rw[if_neg (by omega),if_neg (by rw[he]; simp),if_neg (by omega)]
  have:(a.yes == yesR r w c)=decide (a.yes=yesR r w c):=by cases a.yes <;> cases yesR r w c <;> rfl
  rw[this]
 have hS:S.z8a W (.ptr B.b 0) w (.ptr q 0) (.ptr pa 0) (r.node w c.h) (z25 r w c) (yesR r w c) g=some (.normal,S.z4j (.ptr B.b 0) (.int .i64 w) (.ptr q 0) (.ptr pa 0) (.int .i64 (r.node w c.h)) (.bool (z25 r w c)) (.bool (yesR r w c)) (.bool (!ok13 r w c a)),g):=by
  have han:=D.an
  have hfs:=z0d2 D.A.M a.h
  unfold ok13
  rw[decide_eq_true ha]
  cases dy:(a.yes == yesR r w c) with
  | false=>simp only[S.z8a,zw_,eqV,han,dy]
  | true =>
   cases dg:z25 r w c with
   | false=>simp only[S.z8a,zw_,eqV,han,dy,Bool.false_eq_true]
   | true =>
    cases df:r.fresh a.h with
    | true =>
     rw[df] at hfs
     simp only[S.z8a,zw_,eqV,han,dy,hfs]
    | false =>
     rw[df] at hfs
     simp only[S.z8a,zw_,eqV,han,dy,hfs]
 rw[S.z01n,hS,zd,S.z00g]
 cases ho:ok13 r w c a with
 | true =>
  have hd:doR k r w c a=z0j r w c a:=by
   unfold doR zln
   rw[hok,ho,he,ha]; rfl
  rw[hd,hok,ho]
  simp only[S.zjl,Bool.not_true]
  refine z0gt D I Bs ka hu w0 w1 he fun hg => ?_
  unfold ok13 at ho
  rw[if_pos hg] at ho
  simp only[Bool.and_eq_true] at ho
  exact ho.2
 | false =>
  have hd:doR k r w c a=r:=by
   unfold doR zln
   rw[hok,ho]; rfl
  rw[hd,hok,ho]
  simp only[S.zjl,Bool.not_false]
  exact Ev.some (MdOut.same D.A.ok D.A.M (.refl D.A.ok) false)
theorem z0fz {h:H} (ok:h.ok) (M:MdAt k h.get B r) (I:RIn k r) (Bs:r.small) (ka:k.a<=8) (hu:U64 a.h) {w:Int} (w0:0<=w) (w1:w<k.c) (he:errR k r w c=0) (ha:a.err=0) :
  Ev (C 284 [.ptr B.b 0,.int .i64 w,.agg c.cs,.agg a.cs] h) (MdOut k B h (okR k r w c a) (doR k r w c a)):=by
 refine z0e (af:=F.z0q) (by kernel_rfl) rfl ?_
 have hcs:V.agg c.cs=.agg [.int .i64 c.kind,.int .i64 c.n,.int .u64 c.h,.int .u64 c.x,.int .u64 c.y]:=rfl
 have has:V.agg a.cs=.agg [.int .i64 a.err,.int .u64 a.h,.bool a.yes]:=rfl
 rw[hcs,has,S.z04j]
 simp only[S.z0q]
 have F0:Fr [] h ((h.new (.cells [.int .i64 c.kind,.int .i64 c.n,.int .u64 c.h,.int .u64 c.x,.int .u64 c.y] .rw)).new (.cells [.int .i64 a.err,.int .u64 a.h,.bool a.yes] .rw)):=((Fr.refl ok).new _).new _
 have hlt:=M.lt ok
 have D:DnAt k B r c a ((h.new (.cells [.int .i64 c.kind,.int .i64 c.n,.int .u64 c.h,.int .u64 c.x,.int .u64 c.y] .rw)).new (.cells [.int .i64 a.err,.int .u64 a.h,.bool a.yes] .rw)) h.next (h.next+1) :=
  ⟨⟨F0.ok,M.fr0 ok F0,by rw[z0z (Nat.ne_of_lt (Nat.lt_succ_self _)),ze]⟩,ze _ _,fun q=>by have:=hlt _ q; omega,fun q=>by have:=hlt _ q; omega⟩
 have hn1:(h.new (.cells [.int .i64 c.kind,.int .i64 c.n,.int .u64 c.h,.int .u64 c.x,.int .u64 c.y] .rw)).next=h.next+1:=rfl
 rw[hn1]
 generalize ((h.new (.cells [.int .i64 c.kind,.int .i64 c.n,.int .u64 c.h,.int .u64 c.x,.int .u64 c.y] .rw)).new (.cells [.int .i64 a.err,.int .u64 a.h,.bool a.yes] .rw))=g at D F0 ⊢
 generalize h.next+1=pa at D ⊢
 generalize h.next=q at D ⊢
 have E:=z00x he
 have hcl:=D.A.cl
 have n1:=zh6 D.A.M w c.h
 have n2:=zh6 D.A.M w c.x
 rw[if_pos ⟨w0,w1⟩] at n1 n2
 have l6:=D.A.M.l6
 -- the switch: does it give a handle,and what is answered
 have fin:∀ {g1:H},Fr [] g g1->∀b1 b2,z25 r w c=b1->yesR r w c=b2->Ev (S.zkt W (.ptr B.b 0) w (.ptr q 0) (.ptr pa 0) (r.node w c.h) b1 b2 g1) (MdOut k B h (okR k r w c a) (doR k r w c a)):=fun F1 b1 b2 e1 e2=>by
  subst e1; subst e2
  simp only[S.zkt]
  exact(z0ha (D.fr F1) I Bs ka hu w0 w1 he ha).mono fun z hz=>hz.up (F0.trans' F1)
 have Fg:Fr [] g g:=.refl D.A.ok
 simp only[hcl,zw_,n1]
 have gv:z25 r w c=(decide (c.kind=1) || decide (c.kind=8) || decide (c.kind=9) || (decide (c.kind=2) && decide (0<=r.fat (r.node w c.h) c.n))):=rfl
 have ys:yesR r w c=((decide (c.kind=5) && z00e r w c) || (decide (c.kind=7) && decide (r.node w c.h=r.node w c.x))):=rfl
 by_cases k1:c.kind=1
 ·have d1:decide (c.kind=1)=true:=decide_eq_true k1
  simp only[S.z5r,zw_,S.z4o,S.z47,S.z5l,S.z4q,S.z4a,S.z4t,hcl,d1]
  exact fin Fg true false (by rw[gv,d1]; rfl) (by rw[ys,k1]; simp)
 have d1:decide (c.kind=1)=false:=decide_eq_false k1
 by_cases k8:c.kind=8
 ·have d8:decide (c.kind=8)=true:=decide_eq_true k8
  simp only[S.z5r,zw_,S.z4o,S.z47,S.z5l,S.z4q,S.z4a,S.z4t,hcl,d1,d8]
  exact fin Fg true false (by rw[gv,d1,d8]; rfl) (by rw[ys,k8]; simp)
 have d8:decide (c.kind=8)=false:=decide_eq_false k8
 by_cases k9:c.kind=9
 ·have d9:decide (c.kind=9)=true:=decide_eq_true k9
  simp only[S.z5r,zw_,S.z4o,S.z47,S.z5l,S.z4q,S.z4a,S.z4t,hcl,d1,d8,d9]
  exact fin Fg true false (by rw[gv,d1,d8,d9]; rfl) (by rw[ys,k9]; simp)
 have d9:decide (c.kind=9)=false:=decide_eq_false k9
 by_cases k2:c.kind=2
 ·have d2:decide (c.kind=2)=true:=decide_eq_true k2
  obtain⟨nn,en,hF⟩:=I.flAt (E.node (by omega) (by omega))
  obtain⟨h0,h1⟩:=E.fld (by omega) (by omega)
  obtain⟨j,ej,hj⟩:=RSt.fatAt h0 h1
  obtain⟨b,y,ix,ly,Y⟩:=D.A.M.rows.at hF
  obtain⟨b3,o3,i3,l3⟩:=Y.at hj
  rw[<-ej] at i3
  rw[<-en] at ix
  simp only[S.z5r,zw_,S.z4o,S.z47,S.z5l,S.z4q,S.z4a,S.z4t,hcl,d1,d8,d9,d2,l6,ix,ly,i3,l3]
  exact fin Fg _ false (by rw[gv,d1,d8,d9,d2]; rfl) (by rw[ys,k2]; simp)
 have d2:decide (c.kind=2)=false:=decide_eq_false k2
 have gv0:z25 r w c=false:=by rw[gv,d1,d8,d9,d2]; rfl
 by_cases k5:c.kind=5
 ·have d5:decide (c.kind=5)=true:=decide_eq_true k5
  obtain⟨h0,h1⟩:=E.fld (by omega) (by omega)
  obtain⟨⟨v,g1⟩,e1,rfl,F1⟩:=z02b D.A.ok D.A.M I (c:=c) w0 w1 (E.node (by omega) (by omega)) ⟨h0,h1⟩
  dsimp only at F1
  unfold CallR.cs at e1
  simp only[S.z5r,zw_,S.z4o,S.z47,S.z5l,S.z4q,S.z4a,S.z4t,Nat.reduceAdd,Nat.reduceLeDiff,hcl,d1,d8,d9,d2,d5,e1]
  exact fin F1 false _ gv0 (by rw[ys,d5,k5]; simp)
 have d5:decide (c.kind=5)=false:=decide_eq_false k5
 by_cases k7:c.kind=7
 ·have d7:decide (c.kind=7)=true:=decide_eq_true k7
  simp only[S.z5r,zw_,S.z4o,S.z47,S.z5l,S.z4q,S.z4a,S.z4t,hcl,d1,d8,d9,d2,d5,d7,n2]
  exact fin Fg false _ gv0 (by rw[ys,d5,d7]; rfl)
 ·have d7:decide (c.kind=7)=false:=decide_eq_false k7
  simp only[S.z5r,zw_,S.z4o,S.z47,S.z5l,S.z4q,S.z4a,S.z4t,hcl,d1,d8,d9,d2,d5,d7]
  exact fin Fg false false gv0 (by rw[ys,d5,d7]; rfl)
theorem z0g7 (e h e' h':Int) (y y':Bool):eqV (.agg [(0,.int),(1,.int),(2,.bool)]) (.agg [.int .i64 e,.int .u64 h,.bool y]) (.agg [.int .i64 e',.int .u64 h',.bool y'])=some (decide (e=e') && decide (h=h') && (y == y')):=by
 simp only[eqV,zdp,List.getElem?_cons_zero,List.getElem?_cons_succ,z79,decide_true]
 cases decide (e=e') <;> cases decide (h=h') <;> cases (y == y') <;> rfl
theorem z0f0 {h g:H}{q pa:Nat} (F0:Fr [] h g) (D:DnAt k B r c a g q pa) (I:RIn k r) (Bs:r.small) (ka:k.a<=8) (hu:U64 a.h) {w:Int} (w0:0<=w) (w1:w<k.c) (fl:Bool) (hfl:errR k r w c=0->fl=(decide (c.kind=1) || (decide (3<=c.kind) && decide (c.kind<=5)))) :
  Ev (S.z2d W (.ptr B.b 0) w (.ptr q 0) (.ptr pa 0) (errR k r w c) fl g) (MdOut k B h (okR k r w c a) (doR k r w c a)):=by
 have hcl:=D.A.cl
 have han:=D.an
 have keep:∀ {g1:H},Fr [] g g1->∀b,okR k r w c a=b->doR k r w c a=r->MdOut k B h (okR k r w c a) (doR k r w c a) (.bool b,g1):=fun F b e1 e2=>by
  rw[e1,e2]
  exact(MdOut.same D.A.ok D.A.M F b).up F0
 have Fg:Fr [] g g:=.refl D.A.ok
 by_cases he:errR k r w c=0
 rotate_left
 ·have de:decide (errR k r w c=0)=false:=decide_eq_false he
  have hok:okR k r w c a=(decide (a.err=errR k r w c) && decide (a.h=0) && (a.yes == false)):=by
   unfold okR
   rw[if_neg (by omega),if_pos he]
   cases a.yes <;> rfl
  have hd:doR k r w c a=r:=by
   unfold doR zln
   rw[de]; simp
  have hq:=z0g7 a.err a.h (errR k r w c) 0 a.yes false
  simp only[S.z2d,de,Bool.not_false,z34,han,z4c,List.length_cons,List.length_nil,Nat.zero_add,Nat.reduceAdd,Nat.le_refl,decide_true,List.drop_zero,List.take_succ_cons,List.take_zero,zd,hq]
  exact Ev.some (keep Fg _ hok hd)
 have de:decide (errR k r w c=0)=true:=decide_eq_true he
 have hfl:=hfl he
 have E:=z00x he
 have dz:decide ((0:Int)=0)=true:=rfl
 rw[he]
 by_cases h4:a.err=4
 ·have d4:decide (a.err=4)=true:=decide_eq_true h4
  have hok:okR k r w c a=(zq7 r w c && decide (a.h=0) && !a.yes):=by
   unfold okR
   rw[if_neg (by omega),if_neg (by rw[he]; simp),if_pos h4]
  have hd:doR k r w c a=r:=by
   unfold doR zln
   rw[h4]; simp
  have hm:zq7 r w c=(decide (c.kind=1) || decide (c.kind=3) || decide (c.kind=4) || (decide (c.kind=5) && z00e r w c)):=rfl
  have hq:=z0g7 a.err a.h 4 0 a.yes false
  rw[d4,Bool.true_and] at hq
  have hyy:(a.yes == false)=!a.yes:=by cases a.yes <;> rfl
  rw[hyy] at hq
  simp only[eqV] at hq
  have hq1:(decide (a.h=0) && !a.yes)=true\/(decide (a.h=0) && !a.yes)=false:=by cases (decide (a.h=0) && !a.yes) <;> simp
  cases hf:fl with
  | false =>
   have hm0:zq7 r w c=false:=by
    rw[hf] at hfl
    have h1:decide (c.kind=1)=false:=by
     cases h:decide (c.kind=1) with
     | false=>rfl
     | true=>rw[h] at hfl; cases hfl
    have hn1:=of_decide_eq_false h1
    rw[h1,Bool.false_or] at hfl
    have h2:¬(3<=c.kind/\c.kind<=5):=fun q=>by
     rw[decide_eq_true q.1,decide_eq_true q.2] at hfl; cases hfl
    rw[hm,h1,decide_eq_false (show ¬c.kind=3 by omega),decide_eq_false (show ¬c.kind=4 by omega),decide_eq_false (show ¬c.kind=5 by omega)]; rfl
   simp only[S.z2d,zw_,Nat.reduceAdd,Nat.reduceLeDiff,han,d4]
   exact Ev.some (keep Fg false (by rw[hok,hm0]; rfl) hd)
  | true =>
   rcases hq1 with e | e
   rotate_left
   ·rw[e] at hq
    simp only[S.z2d,zw_,Nat.reduceAdd,Nat.reduceLeDiff,eqV,han,d4]
    rw[zi hq,zd]
    exact Ev.some (keep Fg false (by rw[hok,Bool.and_assoc,e,Bool.and_false]) hd)
   ·rw[e] at hq
    by_cases k5:c.kind=5
    ·have d5:decide (c.kind=5)=true:=decide_eq_true k5
     obtain⟨h0,h1⟩:=E.fld (by omega) (by omega)
     obtain⟨⟨v,g1⟩,e1,rfl,F1⟩:=z02b D.A.ok D.A.M I (c:=c) w0 w1 (E.node (by omega) (by omega)) ⟨h0,h1⟩
     dsimp only at F1
     unfold CallR.cs at e1
     simp only[S.z2d,zw_,Nat.reduceAdd,Nat.reduceLeDiff,eqV,han,d4]
     rw[zi hq,zd]
     simp only[Nat.reduceAdd,zw_,Nat.reduceLeDiff,hcl,d5,e1,Bool.not_not]
     exact Ev.some (keep F1 _ (by rw[hok,Bool.and_assoc,e,Bool.and_true,hm,k5]; simp) hd)
    ·have d5:decide (c.kind=5)=false:=decide_eq_false k5
     have hm1:zq7 r w c=true:=by
      rw[hf] at hfl
      by_cases k1:c.kind=1
      ·rw[hm,decide_eq_true k1]; rfl
      ·rw[decide_eq_false k1,Bool.false_or] at hfl
       have h2:3<=c.kind/\c.kind<=5:=by simpa using hfl.symm
       by_cases k3:c.kind=3
       ·rw[hm,decide_eq_true k3]; simp
       ·have k4:c.kind=4:=by omega
        rw[hm,decide_eq_true k4]; simp
     simp only[S.z2d,zw_,Nat.reduceAdd,Nat.reduceLeDiff,eqV,han,d4]
     rw[zi hq,zd]
     simp only[Nat.reduceAdd,zw_,Nat.reduceLeDiff,hcl,d5]
     exact Ev.some (keep Fg true (by rw[hok,Bool.and_assoc,e,hm1]; rfl) hd)
 ·have d4:decide (a.err=4)=false:=decide_eq_false h4
  by_cases h0:a.err=0
  ·have d0:decide (a.err=0)=true:=decide_eq_true h0
   obtain⟨⟨v,g1⟩,e1,O⟩:=z0fz D.A.ok D.A.M I Bs ka hu (c:=c) w0 w1 he h0
   obtain⟨hv,F1,B',M',E'⟩:=O
   dsimp only at hv F1 M'
   subst hv
   unfold CallR.cs AnsR.cs at e1
   simp only[S.z2d,zw_,Nat.reduceAdd,Nat.reduceLeDiff,eqV,han,hcl,d4,d0,e1]
   exact Ev.some (MdOut.up F0 ⟨rfl,F1,B',M',E'⟩)
  ·have d0:decide (a.err=0)=false:=decide_eq_false h0
   have hok:okR k r w c a=false:=by
    unfold okR
    rw[if_neg (by omega),if_neg (by rw[he]; simp),if_neg h4,d0]; rfl
   have hd:doR k r w c a=r:=by unfold doR zln; rw[hok]; rfl
   simp only[S.z2d,zw_,Nat.reduceAdd,Nat.reduceLeDiff,eqV,han,d4,d0]
   exact Ev.some (keep Fg false hok hd)
theorem z0f7 {h:H} (ok:h.ok) (M:MdAt k h.get B r) (I:RIn k r) (Bs:r.small) (ka:k.a<=8) (hu:U64 a.h) (w:Int) :
  Ev (C 103 [.ptr B.b 0,.int .i64 w,.agg c.cs,.agg a.cs] h) (MdOut k B h (okR k r w c a) (doR k r w c a)):=by
 refine z0e (af:=F.z1c) (by kernel_rfl) rfl ?_
 have hcs:V.agg c.cs=.agg [.int .i64 c.kind,.int .i64 c.n,.int .u64 c.h,.int .u64 c.x,.int .u64 c.y]:=rfl
 have has:V.agg a.cs=.agg [.int .i64 a.err,.int .u64 a.h,.bool a.yes]:=rfl
 rw[hcs,has,S.zuo]
 simp only[S.z1c]
 have F0:Fr [] h ((h.new (.cells [.int .i64 c.kind,.int .i64 c.n,.int .u64 c.h,.int .u64 c.x,.int .u64 c.y] .rw)).new (.cells [.int .i64 a.err,.int .u64 a.h,.bool a.yes] .rw)):=((Fr.refl ok).new _).new _
 have hlt:=M.lt ok
 have D:DnAt k B r c a ((h.new (.cells [.int .i64 c.kind,.int .i64 c.n,.int .u64 c.h,.int .u64 c.x,.int .u64 c.y] .rw)).new (.cells [.int .i64 a.err,.int .u64 a.h,.bool a.yes] .rw)) h.next (h.next+1) :=
  ⟨⟨F0.ok,M.fr0 ok F0,by rw[z0z (Nat.ne_of_lt (Nat.lt_succ_self _)),ze]⟩,ze _ _,fun q=>by have:=hlt _ q; omega,fun q=>by have:=hlt _ q; omega⟩
 have hn1:(h.new (.cells [.int .i64 c.kind,.int .i64 c.n,.int .u64 c.h,.int .u64 c.x,.int .u64 c.y] .rw)).next=h.next+1:=rfl
 rw[hn1]
 generalize ((h.new (.cells [.int .i64 c.kind,.int .i64 c.n,.int .u64 c.h,.int .u64 c.x,.int .u64 c.y] .rw)).new (.cells [.int .i64 a.err,.int .u64 a.h,.bool a.yes] .rw))=g at D F0 ⊢
 generalize h.next+1=pa at D ⊢
 generalize h.next=q at D ⊢
 have hc:=zx8 D.A.M w
 by_cases hw:0<=w/\w<k.c
 rotate_left
 ·have hcf:(decide (0<=w) && decide (w<k.c))=false:=by
   rcases Classical.em (0<=w) with h | h
   ·rw[decide_eq_false (fun q=>hw ⟨h,q⟩),Bool.and_false]
   ·rw[decide_eq_false h,Bool.false_and]
  rw[hcf] at hc
  have hok:okR k r w c a=false:=by unfold okR; rw[if_pos (by omega)]
  have hd:doR k r w c a=r:=by unfold doR zln; rw[hok]; rfl
  rw[hok,hd]
  simp only[hc,zw_]
  exact Ev.some (MdOut.same ok M F0 false)
 obtain⟨w0,w1⟩:=hw
 rw[decide_eq_true w0,decide_eq_true w1] at hc
 have hcl:=D.A.cl
 simp only[hc,zw_]
 rw[S.z025]
 simp only[S.zqx]
 have rest:∀ {g1:H},Fr [] g g1->∀(e:Int) (fl:Bool),errR k r w c=e->(errR k r w c=0->fl=(decide (c.kind=1) || (decide (3<=c.kind) && decide (c.kind<=5))))->Ev (S.z2d W (.ptr B.b 0) w (.ptr q 0) (.ptr pa 0) e fl g1) (MdOut k B h (okR k r w c a) (doR k r w c a)):=fun F1 e fl he hfl=>by
  subst he
  exact z0f0 (F0.trans' F1) (D.fr F1) I Bs ka hu w0 w1 fl hfl
 have Fg:Fr [] g g:=.refl D.A.ok
 by_cases k0:c.kind<1\/10<c.kind
 ·have he:errR k r w c=8:=by rw[zz3,if_pos k0]
  have hfl:errR k r w c=0->false=(decide (c.kind=1) || (decide (3<=c.kind) && decide (c.kind<=5))):=fun q=>by rw[he] at q; cases q
  by_cases k1:c.kind<1
  ·have d0:decide (c.kind<1)=true:=decide_eq_true k1
   simp only[S.z8l,zw_,S.zai,S.z8e,S.z8y,S.z8c,hcl,d0]
   exact rest Fg 8 false he hfl
  ·have d0:decide (c.kind<1)=false:=decide_eq_false k1
   have d1:decide (10<c.kind)=true:=decide_eq_true (by omega)
   simp only[S.z8l,zw_,S.zai,S.z8e,S.z8y,S.z8c,hcl,d0,d1]
   exact rest Fg 8 false he hfl
 have d0:decide (c.kind<1)=false:=decide_eq_false (by omega)
 have d10:decide (10<c.kind)=false:=decide_eq_false (by omega)
 by_cases k1:c.kind=1
 ·have d1:decide (c.kind=1)=true:=decide_eq_true k1
  obtain⟨⟨v,g1⟩,e1,rfl,F1⟩:=z0dt (c:=c) D.A.ok D.A.M w0 w1
  dsimp only at F1
  unfold CallR.cs at e1
  have he:errR k r w c=(if c.n<0\/k.a<c.n then 1 else if (r.held w:Int)<k.hd then 0 else 5):=by rw[zz3,if_neg k0,if_pos k1]
  simp only[S.z8l,zw_,S.zai,S.z8e,S.z8y,S.z8c,Nat.reduceAdd,Nat.reduceLeDiff,hcl,d0,d10,d1,e1]
  exact rest F1 _ true he fun _=>by rw[d1]; rfl
 have d1:decide (c.kind=1)=false:=decide_eq_false k1
 have hwk:=z0fq c.kind g
 by_cases k9:c.kind=9\/c.kind=10
 ·have hwt:(decide (c.kind=9) || decide (c.kind=10))=true:=by simpa using k9
  rw[hwt] at hwk
  obtain⟨⟨v,g1⟩,e1,rfl,F1⟩:=z0f3 (c:=c) D.A.ok D.A.M w0 w1 k9
  dsimp only at F1
  unfold CallR.cs at e1
  have he:errR k r w c=err6 k r w c:=by rw[zz3,if_neg k0,if_neg k1,if_pos k9]
  simp only[S.z8l,zw_,S.zai,S.z8e,S.z8y,S.z8c,Nat.reduceAdd,Nat.reduceLeDiff,hcl,d0,d10,d1,hwk,e1]
  exact rest F1 _ false he fun _=>by rw[d1,decide_eq_false (show ¬c.kind<=5 by omega)]; simp
 ·have hwt:(decide (c.kind=9) || decide (c.kind=10))=false:=by
   rw[decide_eq_false (fun q=>k9 (.inl q)),decide_eq_false (fun q=>k9 (.inr q))]; rfl
  rw[hwt] at hwk
  obtain⟨⟨v,g1⟩,e1,rfl,F1⟩:=z0fm (c:=c) D.A.ok D.A.M I w0 w1
  dsimp only at F1
  unfold CallR.cs at e1
  have hcl1:=F1.get D.A.ok hcl (by simp)
  have hwr:=z03y c.kind g1
  have he:errR k r w c=err9 k r w c:=by rw[zz3,if_neg k0,if_neg k1,if_neg k9]
  simp only[S.z8l,zw_,S.zai,S.z8e,S.z8y,S.z8c,Nat.reduceAdd,Nat.reduceLeDiff,V.beq,hcl,d0,d10,d1,hwk,e1,hcl1,hwr]
  exact rest F1 _ _ he fun _=>by rw[d1,Bool.false_or]
end
section
variable {g0:Nat->Option Blk}{h:H}{k:Cfg}{s:StV}{r:RSt}{c:CallR}{a:AnsR}{g:H}{p q pa po:Nat}
def zli (r:RSt) (w:Int) (c:CallR):Bool:=decide (c.kind=5) && z00e r w c
theorem z0fu (X:DxAt g0 h k s r c a g p q pa po) (I:RIn k r) (B:r.small) (ka:k.a<=100000) {w:Int} (w0:0<=w) (w1:w<k.c) (he:errR k r w c=0) (h4:a.err≠4) :
  Ev ((S.z9y W (S.za0 (.int .i64 w) (.ptr p 0) (.ptr q 0) (.ptr pa 0) (.ptr po 0) (.int .i64 (r.node w c.h)) (.bool (zli r w c)) (.bool (z25 r w c))) g).bind fun z=>S.zcn W z.1 z.2.1 z.2.2) (Fin' g0 h k (doR k r w c a) (okR k r w c a)):=by
 have hcl:=X.D.E.cl
 have lN:=X.D.E.lN
 have hy:yesR r w c=(zli r w c || (decide (c.kind=7) && decide (r.node w c.h=r.node w c.x))):=rfl
 have fin:∀ {g1:H},Fr [] g g1->∀b,yesR r w c=b->Ev ((S.za4 W (S.z9r (.int .i64 w) (.ptr p 0) (.ptr q 0) (.ptr pa 0) (.ptr po 0) (.int .i64 (r.node w c.h)) (.bool (z25 r w c)) (.bool b)) g1).bind fun z=>S.zd3 W z.1 z.2.1 z.2.2) (Fin' g0 h k (doR k r w c a) (okR k r w c a)):=fun F b e=>by
  subst e; exact z0fh (X.fr F) I B ka w0 w1 he h4
 have F0:Fr [] g g:=.refl X.D.E.ok
 cases ds:zli r w c with
 | true =>
  simp only[S.zdw,S.za3,S.zck,S.z9n,zd]
  exact fin F0 true (by rw[hy,ds]; rfl)
 | false =>
  cases d7:decide (c.kind=7) with
  | false =>
   simp only[S.zdw,zw_,S.za3,S.zck,S.z9n,Nat.reduceAdd,hcl,d7]
   exact fin F0 false (by rw[hy,ds,d7]; rfl)
  | true =>
   obtain⟨⟨v,g1⟩,e1,rfl,F1⟩:=zi1 (k:=k) X.D.E.ok X.D.E.Z.h B.h w c.x
   dsimp only at F1
   simp only[S.zdw,zw_,S.za3,S.zck,S.z9n,Nat.reduceAdd,hcl,lN,d7,e1]
   exact fin F1 _ (by rw[hy,ds,d7]; rfl)
theorem z0ia (X:DxAt g0 h k s r c a g p q pa po) (I:RIn k r) (B:r.small) (ka:k.a<=100000) {w:Int} (w0:0<=w) (w1:w<k.c) (he:errR k r w c=0) (h4:a.err≠4) :
  Ev ((S.zgd W (S.zgg (.int .i64 w) (.ptr p 0) (.ptr q 0) (.ptr pa 0) (.ptr po 0) (.int .i64 (r.node w c.h)) (.bool (zli r w c))) g).bind fun z=>S.zhy W z.1 z.2.1 z.2.2) (Fin' g0 h k (doR k r w c a) (okR k r w c a)):=by
 have hcl:=X.D.E.cl
 have l6:=X.D.E.l6
 have E:=z00x he
 have fin:∀b,z25 r w c=b->Ev ((S.z9y W (S.za0 (.int .i64 w) (.ptr p 0) (.ptr q 0) (.ptr pa 0) (.ptr po 0) (.int .i64 (r.node w c.h)) (.bool (zli r w c)) (.bool b)) g).bind fun z=>S.zcn W z.1 z.2.1 z.2.2) (Fin' g0 h k (doR k r w c a) (okR k r w c a)):=fun b e=>by
  subst e; exact z0fu X I B ka w0 w1 he h4
 cases d1:decide (c.kind=1) with
 | true =>
  simp only[S.z6s,zw_,S.z55,S.z60,S.z59,hcl,d1]
  exact fin true (by unfold z25; rw[d1]; rfl)
 | false =>
 cases d8:decide (c.kind=8) with
 | true =>
  simp only[S.z6s,zw_,S.z55,S.z60,S.z59,hcl,d1,d8]
  exact fin true (by unfold z25; rw[d1,d8]; rfl)
 | false =>
 cases d9:decide (c.kind=9) with
 | true =>
  simp only[S.z6s,zw_,S.z55,S.z60,S.z59,hcl,d1,d8,d9]
  exact fin true (by unfold z25; rw[d1,d8,d9]; rfl)
 | false =>
 cases d2:decide (c.kind=2) with
 | false =>
  simp only[S.z6s,zw_,S.z55,S.z60,S.z59,hcl,d1,d8,d9,d2]
  exact fin false (by unfold z25; rw[d1,d8,d9,d2]; rfl)
 | true =>
  have k2:c.kind=2:=of_decide_eq_true d2
  obtain⟨nn,en,hF⟩:=I.flAt (E.node (by omega) (by omega))
  obtain⟨h0,h1⟩:=E.fld (by omega) (by omega)
  obtain⟨j,ej,hj⟩:=RSt.fatAt h0 h1
  obtain⟨b,y,ix,ly,Y⟩:=X.D.E.Z.f.at hF
  obtain⟨b3,o3,i3,l3⟩:=Y.at hj
  rw[<-ej] at i3
  rw[<-en] at ix
  simp only[S.z6s,zw_,S.z55,S.z60,S.z59,hcl,l6,ix,ly,i3,l3,d1,d8,d9,d2]
  exact fin _ (by unfold z25; rw[d1,d8,d9,d2]; rfl)
theorem z0h9 (X:DxAt g0 h k s r c a g p q pa po) {w:Int} (w0:0<=w) (w1:w<k.c) (he:errR k r w c=0) (h4:a.err=4) :
  Ev ((S.zg6 W (S.zg8 (.ptr p 0) (.ptr q 0) (.ptr pa 0) (.ptr po 0) (.bool (zli r w c))) g).bind fun z=>S.zhs W z.1 z.2.1 z.2.2) (Fin' g0 h k (doR k r w c a) (okR k r w c a)):=by
 have hok:okR k r w c a=(zq7 r w c && decide (a.h=0) && !a.yes):=by
  unfold okR
  rw[if_neg (by omega),if_neg (by rw[he]; simp),if_pos h4]
 have hd:doR k r w c a=r:=by
  unfold doR zln
  rw[h4]; simp
 rw[hd,hok]
 have hm:zq7 r w c=(decide (c.kind=1) || decide (c.kind=3) || decide (c.kind=4) || zli r w c):=rfl
 rw[hm]
 have hcl:=X.D.E.cl
 have han:=X.D.an
 have lN:=X.D.E.lN
 unfold StV.v at lN
 have hst:=X.st
 have npa:¬pa=po:=fun e=>X.lo.2.2.2 e.symm
 have d4:(decide (c.kind=1) || decide (c.kind=3) || decide (c.kind=4) || zli r w c)=true\/(decide (c.kind=1) || decide (c.kind=3) || decide (c.kind=4) || zli r w c)=false:=by
  cases (decide (c.kind=1) || decide (c.kind=3) || decide (c.kind=4) || zli r w c) <;> simp
 -- the stretch
 have hS:S.zg7 W (.ptr p 0) (.ptr q 0) (.ptr pa 0) (.ptr po 0) (zli r w c) g=some (.normal,S.z58 (.ptr p 0) (.ptr pa 0) (.ptr po 0) (.bool (decide (c.kind=1) || decide (c.kind=3) || decide (c.kind=4) || zli r w c)),g):=by
  cases e1:decide (c.kind=1) <;> cases e3:decide (c.kind=3) <;> cases e4:decide (c.kind=4) <;>
   simp only[S.zg7,zw_,hcl,e1,e3,e4,Bool.true_or,Bool.or_true]
 rw[S.zw6,hS,zd,S.ztz]
 have hyy:V.beq (.bool a.yes) (.bool a.yes)=true:=by simp[V.beq]
 rcases d4 with e | e
 ·rw[e]
  cases dh:decide (a.h=0) with
  | true =>
   simp only[S.zau,zw_,Nat.reduceAdd,Nat.reduceLeDiff,V.beq,finV,z3w,z6u,z48,lN,han,dh,hst,npa]
   exact Ev.some (X.fin _)
  | false =>
   simp only[S.zau,zw_,Nat.reduceAdd,Nat.reduceLeDiff,finV,z3w,z6u,z48,lN,han,dh,hst]
   exact Ev.some (X.fin _)
 ·rw[e]
  simp only[S.zau,zw_,Nat.reduceAdd,Nat.reduceLeDiff,finV,z3w,z6u,z48,lN,hst]
  exact Ev.some (X.fin _)
theorem z0he (X:DxAt g0 h k s r c a g p q pa po) (I:RIn k r) (B:r.small) (ka:k.a<=100000) {w:Int} (w0:0<=w) (w1:w<k.c) (he:errR k r w c=0) :
  Ev ((S.zgh W (S.zgf (.int .i64 w) (.ptr p 0) (.ptr q 0) (.ptr pa 0) (.ptr po 0) (.int .i64 (r.node w c.h))) g).bind fun z=>S.zhf W z.1 z.2.1 z.2.2) (Fin' g0 h k (doR k r w c a) (okR k r w c a)):=by
 have hcl:=X.D.E.cl
 have han:=X.D.an
 have E:=z00x he
 have lN:=X.D.E.lN
 have l6:=X.D.E.l6
 have fin:∀ {g1:H},Fr [] g g1->∀b,zli r w c=b->Ev (S.zav W w (.ptr p 0) (.ptr q 0) (.ptr pa 0) (.ptr po 0) (r.node w c.h) b g1) (Fin' g0 h k (doR k r w c a) (okR k r w c a)):=fun F b e=>by
  subst e
  have X1:=X.fr F
  have han1:=X1.D.an
  by_cases h4:a.err=4
  ·have d4:decide (a.err=4)=true:=decide_eq_true h4
   simp only[S.zav,zw_,han1,d4]
   exact z0h9 X1 w0 w1 he h4
  ·have d4:decide (a.err=4)=false:=decide_eq_false h4
   simp only[S.zav,zw_,han1,d4]
   exact z0ia X1 I B ka w0 w1 he h4
 cases d5:decide (c.kind=5) with
 | false =>
  simp only[S.zla,zw_,S.zgi,S.zjg,Nat.reduceAdd,hcl,d5]
  exact fin (.refl X.D.E.ok) false (by unfold zli; rw[d5]; rfl)
 | true =>
  have k5:c.kind=5:=of_decide_eq_true d5
  obtain⟨nn,en,hF⟩:=I.flAt (E.node (by omega) (by omega))
  obtain⟨h0,h1⟩:=E.fld (by omega) (by omega)
  obtain⟨j,ej,hj⟩:=RSt.fatAt h0 h1
  obtain⟨⟨v,g1⟩,e1,rfl,F1⟩:=zi1 (k:=k) X.D.E.ok X.D.E.Z.h B.h w c.y
  dsimp only at F1
  have X1:=X.fr F1
  have hcl1:=X1.D.E.cl
  have l61:=X1.D.E.l6
  have sb:=X.sb.fr0 X.hok X.F
  have sb1:=X1.sb.fr0 X1.hok X1.F
  obtain⟨b,y,ix,ly,Y⟩:=X.Z0.f.at hF
  obtain⟨b3,o3,i3,l3⟩:=Y.at hj
  rw[<-ej] at i3
  rw[<-en] at ix
  have ly0:=sb.ldB ly
  have ly1:=sb1.ldB ly
  have l30:=sb.ldB l3
  have l31:=sb1.ldB l3
  have by1:=Y.slv.beq
  have by2:=X.Z0.f.slv.beq
  simp only[S.zla,zw_,S.zgi,S.zjg,Nat.reduceAdd,V.beq,hcl,l6,ix,ly0,i3,l30,lN,e1,hcl1,l61,ly1,l31,by1,by2,d5]
  exact fin F1 _ (by unfold zli z00e; rw[d5]; rfl)
theorem z0eb {h:H} (ok:h.ok) (sb:Sub g0 h.get) (Z:StAt g0 s r) (I:RIn k r) (B:r.small) (ka:k.a<=100000) (w:Int) :
  Ev (C 102 [s.v k,.int .i64 w,.agg c.cs,.agg a.cs] h) (Fin' g0 h k (doR k r w c a) (okR k r w c a)):=by
 refine z0e (af:=F.zj) (by kernel_rfl) rfl ?_
 have hv:s.v k=.agg [.int .i64 k.s,.int .i64 k.a,.int .i64 k.c,.int .i64 k.hd,.int .i64 k.g,.int .i64 k.st,s.f,s.h,s.w,s.c,s.g]:=rfl
 have hcs:V.agg c.cs=.agg [.int .i64 c.kind,.int .i64 c.n,.int .u64 c.h,.int .u64 c.x,.int .u64 c.y]:=rfl
 have has:V.agg a.cs=.agg [.int .i64 a.err,.int .u64 a.h,.bool a.yes]:=rfl
 rw[hv,hcs,has,S.z00n]
 simp only[S.zj,H.next_new]
 have F0:Fr [] h ((((h.new (.cells [.int .i64 k.s,.int .i64 k.a,.int .i64 k.c,.int .i64 k.hd,.int .i64 k.g,.int .i64 k.st,s.f,s.h,s.w,s.c,s.g] .rw)).new (.cells [.int .i64 c.kind,.int .i64 c.n,.int .u64 c.h,.int .u64 c.x,.int .u64 c.y] .rw)).new (.cells [.int .i64 a.err,.int .u64 a.h,.bool a.yes] .rw)).new (.cells [.int .i64 0,.int .i64 0,.int .i64 0,.int .i64 0,.int .i64 0,.int .i64 0,.nilsl,.nilsl,.nilsl,.nilsl,.nilsl] .rw)):=((((Fr.refl ok).new _).new _).new _).new _
 have X:DxAt g0 h k s r c a ((((h.new (.cells [.int .i64 k.s,.int .i64 k.a,.int .i64 k.c,.int .i64 k.hd,.int .i64 k.g,.int .i64 k.st,s.f,s.h,s.w,s.c,s.g] .rw)).new (.cells [.int .i64 c.kind,.int .i64 c.n,.int .u64 c.h,.int .u64 c.x,.int .u64 c.y] .rw)).new (.cells [.int .i64 a.err,.int .u64 a.h,.bool a.yes] .rw)).new (.cells [.int .i64 0,.int .i64 0,.int .i64 0,.int .i64 0,.int .i64 0,.int .i64 0,.nilsl,.nilsl,.nilsl,.nilsl,.nilsl] .rw)) h.next (h.next+1) (h.next+1+1) (h.next+1+1+1):=by
  refine⟨⟨⟨F0.ok,?_,?_,Z.sub (sb.fr0 ok F0)⟩,?_,⟨_,ze _ _,rfl⟩⟩,ok,sb,Z,F0,by omega,by omega,by omega,by omega⟩
  ·rw[z0z (by show h.next≠h.next+1+1+1; omega),z0z (by show h.next≠h.next+1+1; omega),z0z (by show h.next≠h.next+1; omega),ze]
  ·rw[z0z (by show h.next+1≠h.next+1+1+1; omega),z0z (by show h.next+1≠h.next+1+1; omega),show h.next+1=(h.new (.cells [.int .i64 k.s,.int .i64 k.a,.int .i64 k.c,.int .i64 k.hd,.int .i64 k.g,.int .i64 k.st,s.f,s.h,s.w,s.c,s.g] .rw)).next from rfl,ze]
  ·rw[z0z (by show h.next+1+1≠h.next+1+1+1; omega),show h.next+1+1=((h.new (.cells [.int .i64 k.s,.int .i64 k.a,.int .i64 k.c,.int .i64 k.hd,.int .i64 k.g,.int .i64 k.st,s.f,s.h,s.w,s.c,s.g] .rw)).new (.cells [.int .i64 c.kind,.int .i64 c.n,.int .u64 c.h,.int .u64 c.x,.int .u64 c.y] .rw)).next from rfl,ze]
 generalize ((((h.new (.cells [.int .i64 k.s,.int .i64 k.a,.int .i64 k.c,.int .i64 k.hd,.int .i64 k.g,.int .i64 k.st,s.f,s.h,s.w,s.c,s.g] .rw)).new (.cells [.int .i64 c.kind,.int .i64 c.n,.int .u64 c.h,.int .u64 c.x,.int .u64 c.y] .rw)).new (.cells [.int .i64 a.err,.int .u64 a.h,.bool a.yes] .rw)).new (.cells [.int .i64 0,.int .i64 0,.int .i64 0,.int .i64 0,.int .i64 0,.int .i64 0,.nilsl,.nilsl,.nilsl,.nilsl,.nilsl] .rw))=g at X F0 ⊢
 generalize h.next+1+1+1=po at X ⊢
 generalize h.next+1+1=pa at X ⊢
 generalize h.next+1=q at X ⊢
 generalize h.next=p at X ⊢
 have lN:=X.D.E.lN
 have l2:=X.D.E.l2
 have hst:=X.st
 have lNv:=lN
 unfold StV.v at lNv
 rw[S.zwr]
 -- no such client
 by_cases w0:w<0
 ·have d0:decide (w<0)=true:=decide_eq_true w0
  have hok:okR k r w c a=false:=by unfold okR; rw[if_pos (.inl w0)]
  have hd:doR k r w c a=r:=by unfold doR zln; rw[hok]; rfl
  rw[hok,hd]
  simp only[S.z3c,zw_,S.zjd,S.zgj,Nat.reduceAdd,Nat.reduceLeDiff,finV,z3w,z6u,z48,lNv,hst,d0]
  exact Ev.some (X.fin false)
 have d0:decide (w<0)=false:=decide_eq_false w0
 by_cases w1:k.c<=w
 ·have d1:decide (k.c<=w)=true:=decide_eq_true w1
  have hok:okR k r w c a=false:=by unfold okR; rw[if_pos (.inr w1)]
  have hd:doR k r w c a=r:=by unfold doR zln; rw[hok]; rfl
  rw[hok,hd]
  simp only[S.z3c,zw_,S.zjd,S.zgj,Nat.reduceAdd,Nat.reduceLeDiff,finV,z3w,z6u,z48,l2,lNv,hst,d0,d1]
  exact Ev.some (X.fin false)
 have d1:decide (k.c<=w)=false:=decide_eq_false w1
 have w0':0<=w:=by omega
 have w1':w<k.c:=by omega
 obtain⟨⟨v,g1⟩,e1,rfl,F1⟩:=z0cf (k:=k) X.D.E.ok X.D.E.Z I B.h w0' w1' c
 dsimp only at F1
 have X1:=X.fr F1
 have hcl:=X.D.E.cl
 have han1:=X1.D.an
 have lN1:=X1.D.E.lN
 have hst1:=X1.st
 have lN1v:=lN1
 unfold StV.v at lN1v
 have hcl1:=X1.D.E.cl
 unfold CallR.cs at e1
 have npa:¬pa=po:=fun e=>X.lo.2.2.2 e.symm
 by_cases he:errR k r w c=0
 rotate_left
 ·have de:decide (errR k r w c=0)=false:=decide_eq_false he
  have hok:okR k r w c a=(decide (a.err=errR k r w c) && decide (a.h=0) && !a.yes):=by
   unfold okR
   rw[if_neg (by omega),if_pos he]
  have hd:doR k r w c a=r:=by
   unfold doR zln
   rw[de]; simp
  rw[hok,hd]
  generalize errR k r w c=er at e1 de ⊢
  cases d3:decide (a.err=er) with
  | false =>
   simp only[S.z3c,zw_,S.z8g,S.z7d,Nat.reduceAdd,Nat.reduceLeDiff,finV,z3w,z6u,z48,l2,lN,hcl,e1,de,han1,d3,lN1v,hst1,d0,d1]
   exact Ev.some (X1.fin false)
  | true =>
   cases dh:decide (a.h=0) with
   | false =>
    simp only[S.z3c,zw_,S.z8g,S.z7d,Nat.reduceAdd,Nat.reduceLeDiff,finV,z3w,z6u,z48,l2,lN,hcl,e1,de,han1,d3,dh,lN1v,hst1,d0,d1]
    exact Ev.some (X1.fin false)
   | true =>
    simp only[S.z3c,zw_,S.z8g,S.z7d,Nat.reduceAdd,Nat.reduceLeDiff,V.beq,finV,z3w,z6u,z48,l2,lN,hcl,e1,de,han1,d3,dh,lN1v,hst1,d0,d1,npa]
    exact Ev.some (X1.fin _)
 ·have de:decide (errR k r w c=0)=true:=decide_eq_true he
  have e1':=e1
  rw[he] at e1'
  obtain⟨⟨v2,g2⟩,e2,rfl,F2⟩:=zi1 (k:=k) X1.D.E.ok X1.D.E.Z.h B.h w c.h
  dsimp only at F2
  have X2:=X1.fr F2
  have dz:decide ((0:Int)=0)=true:=rfl
  simp only[S.z3c,zw_,S.z8g,S.z7d,Nat.reduceAdd,Nat.reduceLeDiff,finV,z3w,z6u,z48,l2,lN,hcl,e1',lN1,hcl1,e2,d0,d1]
  exact z0he X2 I B ka w0' w1' he
end
def rst0 (k:Cfg):RSt:=⟨[],[],List.replicate k.C 0,List.replicate k.C [],[]⟩
theorem z0g1 (k:Cfg):RIn k (rst0 k):=by
 refine⟨List.length_replicate,List.length_replicate,by simp[rst0],by simp[rst0],List.Pairwise.nil,fun l hl n hn => ?_,fun h hh => ?_,by simp[rst0]⟩
 ·have:=(List.mem_replicate.mp hl).2
  subst this; cases hn
 ·have:=(List.mem_replicate.mp hh).2
  subst this; exact⟨by decide,by decide⟩
theorem z0ga (k:Cfg):RSz k 0 (rst0 k):=⟨Nat.le_refl _,by simp[rst0],Nat.le_refl _,Nat.le_refl _⟩
theorem z0ff (n:Nat):z50 (List.replicate n 0) (List.replicate n .nilsl)=repl [.int .u64 0,.nilsl] n:=by
 induction n with
 | zero=>rfl
 | succ n ih=>simp only[List.replicate_succ,z50,repl,ih,List.cons_append,List.nil_append]
theorem z0a0 {α:Type}{n i:Nat}{x y:α} (h:(List.replicate n x)[i]?=some y):y=x:=by
 have:=List.mem_of_getElem? h
 exact(List.mem_replicate.mp this).2
structure NwAt (k:Cfg) (h g:H) (b bw gm:Nat) (x:V) (ms:List Nat):Prop where
 fr:Fr [] h g
 own:g.get b=some (.cells [.int .i64 k.s,.int .i64 k.a,.int .i64 k.c,.int .i64 k.hd,.int .i64 k.g,.int .i64 k.st,.nilsl,x,.sl bw 0 k.C (.ex k.C),.map gm] .rw)
 w:g.get bw=some (.cells (repl [.int .u64 0,.nilsl] k.C) .rw)
 gv:g.get gm=some (.map [])
 lo:h.next<=bw/\bw<gm/\gm<b
 gx:Grown g.get x 1 (ms.map .map)
 xb:∀a∈x.blk,b<a
 ml:∀m∈ms,b<m/\g.get m=some (.map [])/\m∉x.blk
 nd:ms.Nodup
theorem z0hh {k:Cfg} (hr:k.R=true) {h:H} (ok:h.ok):Ev (C 96 [k.v] h) fun z=>∃B,z.1=.ptr B.b 0/\Fr [] h z.2/\MdAt k z.2.get B (rst0 k)/\(∀x∈B.l,h.next<=x)/\B.nb=[]:=by
 refine z0e (af:=F.zbc) (by kernel_rfl) rfl ?_
 have hv:k.v=.agg [.int .i64 k.s,.int .i64 k.a,.int .i64 k.c,.int .i64 k.hd,.int .i64 k.g,.int .i64 k.st]:=rfl
 rw[hv,S.z06x]
 simp only[S.zbc]
 have hB:=Cfg.R_iff.mp hr
 have hC:(k.C:Int)=k.c:=by unfold Cfg.C; omega
 have hC8:=(Cfg.bounds hr).2.2.1
 have hR:=fun h=>zvq k.s k.a k.c k.hd k.g k.st h
 rw[show cfgR k.s k.a k.c k.hd k.g k.st=k.R from rfl,hr,show cfgV k.s k.a k.c k.hd k.g k.st=k.v from rfl,hv] at hR
 have F0:Fr [] h (h.new (.cells [.int .i64 k.s,.int .i64 k.a,.int .i64 k.c,.int .i64 k.hd,.int .i64 k.g,.int .i64 k.st] .rw)):=(Fr.refl ok).new _
 have hp:=ze h (.cells [.int .i64 k.s,.int .i64 k.a,.int .i64 k.c,.int .i64 k.hd,.int .i64 k.g,.int .i64 k.st] .rw)
 have hn0:(h.new (.cells [.int .i64 k.s,.int .i64 k.a,.int .i64 k.c,.int .i64 k.hd,.int .i64 k.g,.int .i64 k.st] .rw)).next=h.next+1:=rfl
 generalize (h.new (.cells [.int .i64 k.s,.int .i64 k.a,.int .i64 k.c,.int .i64 k.hd,.int .i64 k.g,.int .i64 k.st] .rw))=g at F0 hp hn0 ⊢
 have hmk:=zvi (h:=g) (e:=2) (b:=32) (z:=[V.int .u64 0,.nilsl]) (l:=k.c) (c:=k.c) (by omega) (Int.le_refl _) (by omega) (by omega) rfl (by decide)
 rw[show k.c.toNat=k.C from rfl,hn0] at hmk
 have F1:Fr [] g (g.new (.cells (repl [.int .u64 0,.nilsl] k.C) .rw)):=(Fr.refl F0.ok).new _
 have hw:=ze g (.cells (repl [.int .u64 0,.nilsl] k.C) .rw)
 have hn1:(g.new (.cells (repl [.int .u64 0,.nilsl] k.C) .rw)).next=h.next+2:=by rw[H.next_new,hn0]
 have hp1:=F1.get F0.ok hp (by simp)
 rw[hn0] at hw
 generalize (g.new (.cells (repl [.int .u64 0,.nilsl] k.C) .rw))=g1 at F1 hmk hw hn1 hp1 ⊢
 have F2:Fr [] g1 (g1.new (.map [])):=(Fr.refl F1.ok).new _
 have hgm:=ze g1 (.map [])
 have hn2:(g1.new (.map [])).next=h.next+3:=by rw[H.next_new,hn1]
 have hp2:=F2.get F1.ok hp1 (by simp)
 have hw2:=F2.get F1.ok hw (by simp)
 rw[hn1] at hgm
 have hld6:g.ldN 6 (.ptr h.next 0)=some (.agg [.int .i64 k.s,.int .i64 k.a,.int .i64 k.c,.int .i64 k.hd,.int .i64 k.g,.int .i64 k.st]):=by rw[zoo hp (by simp)]; rfl
 have hld2:g.ld1 (.ptr h.next 2)=some (.int .i64 k.c):=z26 hp rfl rfl
 have ne1:∀v:V,(asI .i64 (.int .i64 k.c))=some k.c:=fun _=>zm _ _
 have hfill:fill [.int .i64 0,.int .i64 0,.int .i64 0,.int .i64 0,.int .i64 0,.int .i64 0,.nilsl,.nilsl,.nilsl,.nilmap] [] [(0,6,.c (.agg [.int .i64 k.s,.int .i64 k.a,.int .i64 k.c,.int .i64 k.hd,.int .i64 k.g,.int .i64 k.st])),(8,1,.c (.sl (h.next+1) 0 k.C (.ex k.C))),(9,1,.c (.map (h.next+2)))]=some [.int .i64 k.s,.int .i64 k.a,.int .i64 k.c,.int .i64 k.hd,.int .i64 k.g,.int .i64 k.st,.nilsl,.nilsl,.sl (h.next+1) 0 k.C (.ex k.C),.map (h.next+2)]:=rfl
 simp only[hld6,hR,hld2,zd,z02,z0x,zm,Bool.not_true,hmk,hn1,hfill,zhb]
 generalize hgg:(g1.new (.map []))=g2 at F2 hgm hn2 hp2 hw2 ⊢
 have F3:Fr [] g2 (g2.new (.cells [.int .i64 k.s,.int .i64 k.a,.int .i64 k.c,.int .i64 k.hd,.int .i64 k.g,.int .i64 k.st,.nilsl,.nilsl,.sl (h.next+1) 0 k.C (.ex k.C),.map (h.next+2)] .rw)):=(Fr.refl F2.ok).new _
 have hb3:=ze g2 (.cells [.int .i64 k.s,.int .i64 k.a,.int .i64 k.c,.int .i64 k.hd,.int .i64 k.g,.int .i64 k.st,.nilsl,.nilsl,.sl (h.next+1) 0 k.C (.ex k.C),.map (h.next+2)] .rw)
 have hp3:=F3.get F2.ok hp2 (by simp)
 have hw3:=F3.get F2.ok hw2 (by simp)
 have hg3:=F3.get F2.ok hgm (by simp)
 rw[hn2] at hb3
 have hld3:(g2.new (.cells [.int .i64 k.s,.int .i64 k.a,.int .i64 k.c,.int .i64 k.hd,.int .i64 k.g,.int .i64 k.st,.nilsl,.nilsl,.sl (h.next+1) 0 k.C (.ex k.C),.map (h.next+2)] .rw)).ld1 (.ptr h.next 2)=some (.int .i64 k.c):=z26 hp3 rfl rfl
 rw[hn2]
 simp only[hld3,zd]
 have F03:Fr [] h (g2.new (.cells [.int .i64 k.s,.int .i64 k.a,.int .i64 k.c,.int .i64 k.hd,.int .i64 k.g,.int .i64 k.st,.nilsl,.nilsl,.sl (h.next+1) 0 k.C (.ex k.C),.map (h.next+2)] .rw)):=((F0.trans' F1).trans' F2).trans' F3
 generalize (g2.new (.cells [.int .i64 k.s,.int .i64 k.a,.int .i64 k.c,.int .i64 k.hd,.int .i64 k.g,.int .i64 k.st,.nilsl,.nilsl,.sl (h.next+1) 0 k.C (.ex k.C),.map (h.next+2)] .rw))=g3 at F03 hb3 hw3 hg3 ⊢
 have N0:NwAt k h g3 (h.next+3) (h.next+1) (h.next+2) .nilsl []:=⟨F03,hb3,hw3,hg3,⟨by omega,by omega,by omega⟩,Grown.nil _ _,by simp[V.blk],by simp,List.nodup_nil⟩
 generalize h.next+3=b at N0 ⊢
 generalize h.next+1=bw at N0
 generalize h.next+2=gm at N0
 refine z0f (α:=Nat) (fun i=>S.zo0 (.ptr b 0) (.int .i64 k.c) (.int .i64 (i:Nat)))
  (fun i g'=>i<=k.C/\∃x ms,NwAt k h g' b bw gm x ms/\ms.length=i) (fun i _=>k.C-i)
  (fun z=>z.1=.exit 0/\z.2.1=S.zut (.ptr b 0)/\∃x ms,NwAt k h z.2.2 b bw gm x ms/\ms.length=k.C) 0 rfl ⟨Nat.zero_le _,.nilsl,[],N0,rfl⟩ ?_ ?_
 rotate_left
 ·rintro⟨_,_,g'⟩ ⟨rfl,rfl,x,ms,N,hl⟩
  show Ev (S.zzc W (.exit 0) _ _) _
  rw[S.z06u]
  dsimp only at N
  obtain⟨bh,hx,hbh⟩:∃bh,x=.sl bh 0 k.C (.op 1)/\g'.get bh=some (.cells (ms.map .map) (.gr 1)):=by
   obtain⟨_,h0⟩ | ⟨bh,n,hx,hn,hb⟩:=N.gx
   ·have:=congrArg List.length h0
    rw[List.length_map,hl] at this
    simp at this; omega
   ·rw[List.length_map,hl,Nat.mul_one] at hn
    rw[<-hn] at hx
    exact⟨bh,hx,hb⟩
  subst hx
  have hbx:=N.xb bh (by simp[V.blk])
  have hlo:=N.lo
  have hml:=N.ml
  refine Ev.some ⟨⟨b,.nilsl,[],[],bh,ms,bw,List.replicate k.C .nilsl,gm,true⟩,rfl,N.fr,?_,?_,?_⟩
  ·refine⟨?_,?_,N.own,Grown.nil _ _,⟨rfl,rfl⟩,by simp,hbh,hl,fun i m hm=>(hml m (List.mem_of_getElem? hm)).2.1,?_,⟨List.length_replicate,List.length_replicate,List.length_replicate⟩,fun i v l h1 h2 => ?_,N.gv⟩
   ·show(b :: bh :: bw :: gm :: (ms ++ (V.nilsl.blk ++ []))).Nodup
    have e:V.nilsl.blk ++ ([]:List Nat)=[]:=rfl
    rw[e,List.append_nil,List.nodup_cons,List.nodup_cons,List.nodup_cons,List.nodup_cons]
    refine⟨fun q => ?_,fun q => ?_,fun q => ?_,fun q => ?_,N.nd⟩
    ·simp only[List.mem_cons] at q
     rcases q with q | q | q | q
     ·omega
     ·omega
     ·omega
     ·have:=(hml b q).1; omega
    ·simp only[List.mem_cons] at q
     rcases q with q | q | q
     ·omega
     ·omega
     ·exact(hml bh q).2.2 (by simp[V.blk])
    ·simp only[List.mem_cons] at q
     rcases q with q | q
     ·omega
     ·have:=(hml bw q).1; omega
    ·have:=(hml gm q).1; omega
   ·intro y hy
    have:y∈((List.replicate k.C V.nilsl).map V.blk).flatten:=hy
    rw[List.map_replicate] at this
    obtain⟨lb,h1,h2⟩:=List.mem_flatten.mp this
    rw[(List.mem_replicate.mp h1).2] at h2
    cases h2
   ·show g'.get bw=some (.cells (z50 (List.replicate k.C 0) (List.replicate k.C .nilsl)) .rw)
    rw[z0ff]; exact N.w
   ·have e1:=z0a0 h1
    have e2:=z0a0 h2
    subst e1; subst e2
    exact .inl ⟨rfl,rfl⟩
  ·intro y hy
   have hy':y∈b :: bh :: bw :: gm :: (ms ++ (V.nilsl.blk ++ [])):=hy
   have e:V.nilsl.blk ++ ([]:List Nat)=[]:=rfl
   rw[e,List.append_nil] at hy'
   simp only[List.mem_cons] at hy'
   rcases hy' with q | q | q | q | q
   ·omega
   ·omega
   ·omega
   ·omega
   ·have:=(hml y q).1; omega
  ·show((List.replicate k.C V.nilsl).map V.blk).flatten=[]
   rw[List.map_replicate,show V.nilsl.blk=[] from rfl]
   have:∀n:Nat,(List.replicate n ([]:List Nat)).flatten=[]:=fun n=>by
    induction n with
    | zero=>rfl
    | succ n ih=>rw[List.replicate_succ,List.flatten_cons,ih]; rfl
   exact this _
 rintro i g' ⟨hi,x,ms,N,hl⟩
 rw[S.z09q]
 by_cases hic:i<k.C
 ·have d:decide ((i:Int)<k.c)=true:=decide_eq_true (by omega)
  have ox:=N.gx.slv.one
  have hown:=N.own
  have ok':=N.fr.ok
  have Fa:Fr [] g' (g'.new (.map [])):=(Fr.refl ok').new _
  have Fb:Fr [] (g'.new (.map [])) ((g'.new (.map [])).new (.cells [.map g'.next] .rw)):=(Fr.refl Fa.ok).new _
  have Fab:=Fa.trans' Fb
  obtain⟨x',g2',e2,F2',G2,hx',_⟩:=Grown.push Fb.ok (bytes:=8) (N.gx.fr ok' Fab (by simp)) (ze (g'.new (.map [])) _) (e:=1) rfl rfl (by decide) ⟨by decide,by decide⟩ (by rw[List.length_map]; omega)
  have hnx:(g'.new (.map [])).next=g'.next+1:=rfl
  rw[hnx] at e2
  have hbx:b∉x.blk:=fun q=>by have:=N.xb _ q; omega
  have hown2:=F2'.get Fb.ok (Fab.get ok' hown (by simp)) hbx
  have ox':=G2.slv.one
  have ox2:=G2.slv.cells
  have hbl:b<g2'.next:=F2'.ok.lt hown2
  have hxn:∀a∈x'.blk,g'.next<=a:=fun a ha=>Nat.le_trans Fab.le (hx' a ha)
  have hxn2:∀a∈x'.blk,g'.next+2<=a:=fun a ha=>by have:=hx' a ha; rw[H.next_new,H.next_new] at this; omega
  have hbl':b<g'.next:=ok'.lt hown
  have wi:=znz (i:=i) (by omega)
  simp only[S.zv7,zw_,Nat.reduceAdd,Nat.reduceLeDiff,z07,reduceCtorEq,d,hown,ox,e2,hown2,ox',ox2,wi]
  have keep:∀a,a<g'.next->a≠b->a∉x.blk->(g2'.put b (some (.cells [.int .i64 k.s,.int .i64 k.a,.int .i64 k.c,.int .i64 k.hd,.int .i64 k.g,.int .i64 k.st,.nilsl,x',.sl bw 0 k.C (.ex k.C),.map gm] .rw))).get a=g'.get a:=fun a h1 h2 h3=>by
   rw[zf h2,F2'.same a (by have:=Fab.le; omega) h3,Fab.same a h1 (by simp)]
  have hlo:=N.lo
  have hnl:h.next<=b:=by omega
  refine Ev.some (.inl ⟨i+1,rfl,rfl,⟨hic,x',ms ++ [g'.next],⟨?_,zq _ _ _,?_,?_,hlo,?_,fun a ha=>by have:=hxn a ha; omega,fun m hm => ?_,?_⟩,by rw[List.length_append,hl]; rfl⟩,Nat.sub_lt_sub_left hic (Nat.lt_succ_self i)⟩)
  ·exact((N.fr.trans' Fab).trans F2' (fun a ha=>.inr (by have:=N.xb a ha; omega))).put (.inr hnl) hbl _
  ·rw[keep bw (ok'.lt N.w) (by omega) (fun q=>by have:=N.xb _ q; omega)]; exact N.w
  ·rw[keep gm (ok'.lt N.gv) (by omega) (fun q=>by have:=N.xb _ q; omega)]; exact N.gv
  ·rw[List.map_append]
   exact G2.congr fun a ha=>zf (by have:=hxn a ha; omega)
  ·rcases List.mem_append.mp hm with q | q
   ·obtain⟨h1,h2,h3⟩:=N.ml m q
    exact⟨h1,by rw[keep m (ok'.lt h2) (by omega) h3]; exact h2,fun q=>by have:=hxn _ q; have:=ok'.lt h2; omega⟩
   ·simp only[List.mem_singleton] at q
    subst q
    refine⟨hbl',?_,fun q=>by have:=hxn2 _ q; omega⟩
    have hnb:g'.next∉x.blk:=fun q=>by have:=N.gx.lt ok' _ q; omega
    rw[zf (by omega),F2'.same _ (by have:=Fb.le; rw[hnx] at this; omega) hnb,Fb.same _ (by rw[hnx]; omega) (by simp),ze]
  ·rw[List.nodup_append]
   refine⟨N.nd,by simp,fun u hu v hv e => ?_⟩
   simp only[List.mem_singleton] at hv
   have:=ok'.lt (N.ml u hu).2.1
   omega
 ·have hie:i=k.C:=by omega
  subst hie
  have d:decide (((k.C:Nat):Int)<k.c)=false:=decide_eq_false (by omega)
  simp only[S.zv7,d]
  exact Ev.some (.inr ⟨by simp,rfl,rfl,x,ms,N,hl⟩)
theorem z0k2 (n:Nat):repl [V.nilsl] n=List.replicate n .nilsl:=by
 induction n with
 | zero=>rfl
 | succ n ih=>simp only[repl,ih,List.replicate_succ,List.cons_append,List.nil_append]
theorem z0le (n:Nat):repl [V.int .u64 0] n=(List.replicate n (0:Int)).map (.int .u64):=by
 induction n with
 | zero=>rfl
 | succ n ih=>simp only[repl,ih,List.replicate_succ,List.map_cons,List.cons_append,List.nil_append]
theorem z0fs {k:Cfg} (hr:k.R=true) {h:H} (ok:h.ok) (g0:Nat->Option Blk):Ev (C 99 [k.v] h) fun z=>∃s,z.1=s.v k/\Fr [] h z.2/\StAt (ug g0 h z.2) s (rst0 k):=by
 refine z0e (af:=F.zbd) (by kernel_rfl) rfl ?_
 have hv:k.v=.agg [.int .i64 k.s,.int .i64 k.a,.int .i64 k.c,.int .i64 k.hd,.int .i64 k.g,.int .i64 k.st]:=rfl
 rw[hv,S.z07o]
 simp only[S.zbd]
 have hB:=Cfg.R_iff.mp hr
 have F0:Fr [] h ((h.new (.cells [.int .i64 k.s,.int .i64 k.a,.int .i64 k.c,.int .i64 k.hd,.int .i64 k.g,.int .i64 k.st] .rw)).new (.cells [.int .i64 0,.int .i64 0,.int .i64 0,.int .i64 0,.int .i64 0,.int .i64 0,.nilsl,.nilsl,.nilsl,.nilsl,.nilsl] .rw)):=((Fr.refl ok).new _).new _
 have hp:((h.new (.cells [.int .i64 k.s,.int .i64 k.a,.int .i64 k.c,.int .i64 k.hd,.int .i64 k.g,.int .i64 k.st] .rw)).new (.cells [.int .i64 0,.int .i64 0,.int .i64 0,.int .i64 0,.int .i64 0,.int .i64 0,.nilsl,.nilsl,.nilsl,.nilsl,.nilsl] .rw)).get h.next=some (.cells [.int .i64 k.s,.int .i64 k.a,.int .i64 k.c,.int .i64 k.hd,.int .i64 k.g,.int .i64 k.st] .rw):=by
  rw[z0z (Nat.ne_of_lt (Nat.lt_succ_self _)),ze]
 have hp2:((h.new (.cells [.int .i64 k.s,.int .i64 k.a,.int .i64 k.c,.int .i64 k.hd,.int .i64 k.g,.int .i64 k.st] .rw)).new (.cells [.int .i64 0,.int .i64 0,.int .i64 0,.int .i64 0,.int .i64 0,.int .i64 0,.nilsl,.nilsl,.nilsl,.nilsl,.nilsl] .rw)).get (h.next+1)=some (.cells [.int .i64 0,.int .i64 0,.int .i64 0,.int .i64 0,.int .i64 0,.int .i64 0,.nilsl,.nilsl,.nilsl,.nilsl,.nilsl] .rw):=ze _ _
 have hn0:(h.new (.cells [.int .i64 k.s,.int .i64 k.a,.int .i64 k.c,.int .i64 k.hd,.int .i64 k.g,.int .i64 k.st] .rw)).next=h.next+1:=rfl
 have hn1:((h.new (.cells [.int .i64 k.s,.int .i64 k.a,.int .i64 k.c,.int .i64 k.hd,.int .i64 k.g,.int .i64 k.st] .rw)).new (.cells [.int .i64 0,.int .i64 0,.int .i64 0,.int .i64 0,.int .i64 0,.int .i64 0,.nilsl,.nilsl,.nilsl,.nilsl,.nilsl] .rw)).next=h.next+2:=rfl
 rw[hn0]
 generalize ((h.new (.cells [.int .i64 k.s,.int .i64 k.a,.int .i64 k.c,.int .i64 k.hd,.int .i64 k.g,.int .i64 k.st] .rw)).new (.cells [.int .i64 0,.int .i64 0,.int .i64 0,.int .i64 0,.int .i64 0,.int .i64 0,.nilsl,.nilsl,.nilsl,.nilsl,.nilsl] .rw))=g at F0 hp hp2 hn1 ⊢
 have hmk:=zvi (h:=g) (e:=1) (b:=8) (z:=[V.int .u64 0]) (l:=k.c) (c:=k.c) (by omega) (Int.le_refl _) (by omega) (by omega) rfl (by decide)
 rw[show k.c.toNat=k.C from rfl,hn1,z0le] at hmk
 have F1:Fr [] g (g.new (.cells ((List.replicate k.C (0:Int)).map (.int .u64)) .rw)):=(Fr.refl F0.ok).new _
 have hw:=ze g (.cells ((List.replicate k.C (0:Int)).map (.int .u64)) .rw)
 rw[hn1] at hw
 have hn2:(g.new (.cells ((List.replicate k.C (0:Int)).map (.int .u64)) .rw)).next=h.next+3:=by rw[H.next_new,hn1]
 have hp21:=F1.get F0.ok hp2 (by simp)
 generalize (g.new (.cells ((List.replicate k.C (0:Int)).map (.int .u64)) .rw))=g1 at F1 hw hn2 hmk hp21
 have hmk2:=zvi (h:=g1) (e:=1) (b:=24) (z:=[V.nilsl]) (l:=k.c) (c:=k.c) (by omega) (Int.le_refl _) (by omega) (by omega) rfl (by decide)
 rw[show k.c.toNat=k.C from rfl,hn2,z0k2] at hmk2
 have F2:Fr [] g1 (g1.new (.cells (List.replicate k.C .nilsl) .rw)):=(Fr.refl F1.ok).new _
 have hc2:=ze g1 (.cells (List.replicate k.C .nilsl) .rw)
 rw[hn2] at hc2
 have hw2:=F2.get F1.ok hw (by simp)
 have hp22:=F2.get F1.ok hp21 (by simp)
 generalize (g1.new (.cells (List.replicate k.C .nilsl) .rw))=g2 at F2 hc2 hmk2 hw2 hp22
 have hld6:g.ldN 6 (.ptr h.next 0)=some (.agg [.int .i64 k.s,.int .i64 k.a,.int .i64 k.c,.int .i64 k.hd,.int .i64 k.g,.int .i64 k.st]):=by rw[zoo hp (by simp)]; rfl
 have hld2:g.ld1 (.ptr h.next 2)=some (.int .i64 k.c):=z26 hp rfl rfl
 have hfill:fill [.int .i64 0,.int .i64 0,.int .i64 0,.int .i64 0,.int .i64 0,.int .i64 0,.nilsl,.nilsl,.nilsl,.nilsl,.nilsl] [] [(0,6,.c (.agg [.int .i64 k.s,.int .i64 k.a,.int .i64 k.c,.int .i64 k.hd,.int .i64 k.g,.int .i64 k.st])),(8,1,.c (.sl (h.next+2) 0 k.C (.ex k.C))),(9,1,.c (.sl (h.next+3) 0 k.C (.ex k.C)))]=some [.int .i64 k.s,.int .i64 k.a,.int .i64 k.c,.int .i64 k.hd,.int .i64 k.g,.int .i64 k.st,.nilsl,.nilsl,.sl (h.next+2) 0 k.C (.ex k.C),.sl (h.next+3) 0 k.C (.ex k.C),.nilsl]:=rfl
 simp only[hld6,hld2,zd,zm,hmk,hmk2,hfill]
 have F02:=(F0.trans' F1).trans' F2
 simp only[Nat.reduceAdd,zw_,Nat.reduceLeDiff,z07,reduceCtorEq,finV,z3w,z6u,z48,hp22]
 refine Ev.some ⟨⟨.nilsl,.nilsl,.sl (h.next+2) 0 k.C (.ex k.C),.sl (h.next+3) 0 k.C (.ex k.C),.nilsl⟩,rfl,F02.put (.inr (Nat.le_succ _)) (F2.ok.lt hp22) _,⟨.inl ⟨rfl,rfl⟩,.inl ⟨rfl,rfl⟩,?_,?_,.inl ⟨rfl,rfl⟩⟩⟩
 ·refine .inr ⟨h.next+2,0,.ex k.C,.rw,(List.replicate k.C (0:Int)).map (.int .u64),?_,?_,?_,?_,.inr ⟨k.C,rfl,?_⟩⟩
  ·show V.sl (h.next+2) 0 k.C (.ex k.C)=.sl (h.next+2) 0 (List.replicate k.C (0:Int)).length (.ex k.C)
   rw[List.length_replicate]
  ·rw[z6w (by omega),zf (by omega)]; exact hw2
  ·rw[List.drop_zero,List.take_of_length_le (by rw[List.length_map]; exact Nat.le_refl _)]; rfl
  ·rw[List.length_map]
   show 0+(List.replicate k.C (0:Int)).length<=_
   omega
  ·show(List.replicate k.C (0:Int)).length<=k.C
   rw[List.length_replicate]; exact Nat.le_refl _
 ·refine .inr ⟨h.next+3,.ex k.C,.rw,List.replicate k.C .nilsl,?_,?_,?_,fun i v l h1 h2 => ?_⟩
  ·show V.sl (h.next+3) 0 k.C (.ex k.C)=.sl (h.next+3) 0 (List.replicate k.C ([]:List Int)).length (.ex k.C)
   rw[List.length_replicate]
  ·rw[z6w (by omega),zf (by omega)]; exact hc2
  ·rw[List.length_replicate]
   show k.C=(List.replicate k.C ([]:List Int)).length
   rw[List.length_replicate]
  ·have e1:=z0a0 h1
   have e2:=z0a0 h2
   subst e1; subst e2
   exact .inl ⟨rfl,rfl⟩
structure Mod (h0:H) (k:Cfg) (g:H) (B:MdB) (r:RSt) (n:Nat):Prop where
 fr:Fr [] h0 g
 M:MdAt k g.get B r
 I:RIn k r
 sz:RSz k n r
 lo:∀b∈B.l,h0.next<=b
section
variable {h0 g g':H}{k:Cfg}{B B' D:MdB}{r s:RSt}{n m:Nat}
theorem Mod.does (X:Mod h0 k g B r n) (hr:k.R=true) (hn:n<=1000) {c:CallR}{a:AnsR} (hu:U64 a.h) (w:Int) :
  Ev (C 103 [.ptr B.b 0,.int .i64 w,.agg c.cs,.agg a.cs] g) fun z=>z.1=.bool (okR k r w c a)/\∃B',Mod h0 k z.2 B' (doR k r w c a) (n+1)/\Fr B.l g z.2/\B.ext B' g:=by
 have hB:=Cfg.R_iff.mp hr
 have hC:=(Cfg.bounds hr).2.2.1
 refine(z0f7 (c:=c) (a:=a) X.fr.ok X.M X.I (X.sz.small X.I (by omega) (by omega) (by omega)) (by omega) hu w).mono ?_
 rintro⟨v,g'⟩ ⟨hv,F,B',M',E⟩
 exact⟨hv,B',⟨X.fr.trans F (fun b hb=>.inr (X.lo b hb)),M',X.I.do w c hu,X.sz.do w c a,fun b hb=>by
  rcases E.l b hb with h | h
  ·exact X.lo b h
  ·exact Nat.le_trans X.fr.le h⟩,F,E⟩
theorem Mod.new (hr:k.R=true) (F:Fr [] h0 g):Ev (C 96 [k.v] g) fun z=>∃B,z.1=.ptr B.b 0/\Fr [] g z.2/\Mod h0 k z.2 B (rst0 k) 0/\(∀b∈B.l,g.next<=b)/\B.nb=[]:=by
 refine(z0hh hr F.ok).mono ?_
 rintro⟨v,g'⟩ ⟨B,hv,F',M,hl,hn⟩
 exact⟨B,hv,F',⟨F.trans F' (by simp),M,z0g1 k,z0ga k,fun b hb=>Nat.le_trans F.le (hl b hb)⟩,hl,hn⟩
end
section
variable {h0:H}{k:Cfg}{g:H}{pS:Nat}{B:MdB}{s:StV}{r:RSt}{g0:Nat->Option Blk}{n:Nat}
theorem z0li {cs l:List V} (g:H) (ok:g.ok) (h:l.length=cs.length) (h1:l.all V.one=true):∃g',(g.new (.cells cs .rw)).st cs.length (.ptr g.next 0) (.agg l)=some g'/\Fr [] g g'/\g'.get g.next=some (.cells l .rw)/\g'.next=g.next+1:=by
 refine⟨(g.new (.cells cs .rw)).put g.next (some (.cells l .rw)),?_,((Fr.refl ok).new _).put (.inr (Nat.le_refl _)) (Nat.lt_succ_self _) _,zq _ _ _,rfl⟩
 have hb:Nat.beq (V.agg l).cells.length cs.length=true:=by
  show Nat.beq l.length cs.length=true
  rw[h]; exact Nat.beq_refl _
 rw[z92,hb,ze]
 show Option.map _ (stB (some (.cells cs .rw)) 0 l)=_
 rw[zz5 h h1]; rfl
end
def Evt.call (e:Evt):CallR:=⟨e.kind,e.n,e.h,e.x,e.y⟩
def Evt.ans (e:Evt):AnsR:=⟨e.err,e.ah,e.yes⟩
def rp1 (k:Cfg) (l:List Evt) (r:RSt) (i:Int):Option RSt :=
 if i<0 then none else match l[i.toNat]? with
  | none=>none
  | some e=>if okR k r e.client e.call e.ans then some (doR k r e.client e.call e.ans) else none
def rpN (k:Cfg) (l:List Evt):RSt->List Int->Nat
 | _,[]=>0
 | r,i :: o=>match rp1 k l r i with
  | none=>0
  | some r'=>rpN k l r' o+1
def rpS (k:Cfg) (l:List Evt):RSt->List Int->Option RSt
 | r,[]=>some r
 | r,i :: o=>match rp1 k l r i with
  | none=>none
  | some r'=>rpS k l r' o
section
variable {k:Cfg}{l:List Evt}
theorem z0g9 {r:RSt}{i:Nat}{y:Evt} (h:l[i]?=some y):rp1 k l r (i:Int)=if okR k r y.client y.call y.ans then some (doR k r y.client y.call y.ans) else none:=by
 unfold rp1
 rw[if_neg (by omega),Int.toNat_natCast,h]
theorem z033 {r:RSt}{i:Int} (h:i<0\/(l.length:Int)<=i):rp1 k l r i=none:=by
 unfold rp1
 by_cases h0:i<0
 ·rw[if_pos h0]
 ·rw[if_neg h0,List.getElem?_eq_none (by omega)]
theorem z087:∀(o:List Int) (r:RSt) (i:Int),rpS k l r (o ++ [i])=(rpS k l r o).bind fun r'=>rp1 k l r' i
 | [],r,i=>by
  show rpS k l r [i]=rp1 k l r i
  simp only[rpS]
  cases rp1 k l r i <;> rfl
 | j :: o,r,i=>by
  simp only[List.cons_append,rpS]
  cases rp1 k l r j with
  | none=>rfl
  | some r'=>exact z087 o r' i
theorem z0ah:∀(o:List Int) (r:RSt) {r':RSt},rpS k l r o=some r'->rpN k l r o=o.length
 | [],r,_,_=>rfl
 | j :: o,r,r',h=>by
  simp only[rpS] at h
  simp only[rpN]
  cases hj:rp1 k l r j with
  | none=>rw[hj] at h; cases h
  | some r1=>rw[hj] at h; simp only; rw[z0ah o r1 h]; rfl
theorem zqf:∀(o:List Int) (n:Nat) (r:RSt) {r':RSt}{i:Int},rpS k l r (o.take n)=some r'->o[n]?=some i->rp1 k l r' i=none->rpN k l r o=n
 | [],n,r,_,_,_,h,_=>by simp at h
 | j :: o,0,r,r',i,h,h1,h2=>by
  simp only[List.take_zero,rpS,Option.some.injEq] at h
  simp only[List.getElem?_cons_zero,Option.some.injEq] at h1
  subst h; subst h1
  simp only[rpN,h2]
 | j :: o,n+1,r,r',i,h,h1,h2=>by
  simp only[List.take_succ_cons,rpS] at h
  simp only[rpN]
  cases hj:rp1 k l r j with
  | none=>rw[hj] at h; cases h
  | some r1 =>
   rw[hj] at h; simp only
   rw[zqf o n r1 h h1 h2]
theorem z0b2 {o:List Int}{n:Nat}{i:Int} (h:o[n]?=some i):o.take (n+1)=o.take n ++ [i]:=by
 rw[List.take_succ,h]; rfl
end
theorem z0np {g:H} (ok:g.ok) {b j:Nat}{v:V} (h:g.ld1 (.ptr b j)=some v):b<g.next:=by
 rw[zk] at h
 cases hb:g.get b with
 | none=>rw[hb] at h; cases h
 | some blk=>exact ok.lt hb
structure RowP (g:H) (x:V) (ws:List Int):Prop where
 len:lenSl x=some ws.length
 one:x.one=true
 at':∀(i:Nat) (w:Int),ws[i]?=some w->∃b j,z0 1 x (.int .i64 (i:Int))=some (.ptr b j)/\g.ld1 (.ptr b j)=some (.int .i64 w)/\b∈x.blk
theorem RowP.fr {g g':H}{L:List Nat}{x:V}{ws:List Int} (h:RowP g x ws) (ok:g.ok) (F:Fr L g g') (hL:∀b∈x.blk,b∉L):RowP g' x ws :=
 ⟨h.len,h.one,fun i w hw=>by
  obtain⟨b,j,h1,h2,h3⟩:=h.at' i w hw
  refine⟨b,j,h1,?_,h3⟩
  have lt:=z0np ok h2
  rw[zk] at h2 ⊢
  rw[F.same b lt (hL b h3)]; exact h2⟩
theorem RowN.P {g:H}{x:V}{ws:List Int} (h:RowN .i64 g.get x ws):RowP g x ws :=
 ⟨h.len,h.one,fun i w hw=>by
  obtain⟨b,h1,h2⟩:=h.at hw
  refine⟨b,i,h1,h2,?_⟩
  obtain⟨rfl,rfl⟩ | ⟨b',c,k,rfl,_⟩:=h
  ·simp at hw
  ·rw[zs (z0a hw)] at h1
   simp only[Option.some.injEq,V.ptr.injEq] at h1
   simp[V.blk,h1.1]⟩
theorem z06s {g:H}{x:V}{l:List Evt} (h:RowE g.get x l) {i:Nat}{y:Evt} (hy:l[i]?=some y) :
  ∃b,z0 14 x (.int .i64 (i:Int))=some (.ptr b (i * 14))/\g.ld1 (.ptr b (i * 14))=some (.int .i64 y.client)/\g.ldN 5 (.ptr b (i * 14+6))=some (.agg y.call.cs)/\g.ldN 3 (.ptr b (i * 14+11))=some (.agg y.ans.cs):=by
 have hi:=z0a hy
 obtain⟨rfl,rfl⟩ | ⟨b,c,k,rfl,hb⟩:=h
 ·simp at hy
 ·have hn:(l.map Evt.cs).flatten.length=l.length * 14:=by rw[zc7 (z0cx l),List.length_map]
  have hp:=zwk (z0cx l) i y.cs (by rw[List.getElem?_map,hy]; rfl)
  have part':∀j n,j+n<=14->((l.map Evt.cs).flatten.drop (i * 14+j)).take n=(y.cs.drop j).take n:=fun j n hj=>by
   rw[<-hp,List.drop_take,List.take_take,List.drop_drop,Nat.min_eq_left (by omega)]
  refine⟨b,z06j hi,?_,?_,?_⟩
  ·rw[zk,hb,z08]
   have:(l.map Evt.cs).flatten[i * 14]?=y.cs[0]?:=by
    rw[<-hp,List.getElem?_take,if_pos (by decide),List.getElem?_drop]; rfl
   rw[this]; rfl
  ·rw[z34,hb,z4c,decide_eq_true (by rw[hn]; omega),part' 6 5 (by decide)]; rfl
  ·rw[z34,hb,z4c,decide_eq_true (by rw[hn]; omega),part' 11 3 (by decide)]; rfl
theorem z0n7 {g:Nat->Option Blk}{by':Nat}{v:V} (h:CellOk g (.sl by' z0lq) v) :
  ∃l,RowE g v l/\(∀y∈l,U64 y.ah)/\l.length * by'<=140737488351232/\l.length<=Go.maxLen:=by
 unfold CellOk at h
 rcases h with rfl | ⟨b,n,cs,rfl,⟨h1,h2⟩,h3,h4,h5⟩
 ·exact⟨[],.inl ⟨rfl,rfl⟩,by simp,by simp,by simp⟩
 ·obtain⟨ws,e1,e2,e3⟩:=z0dz (α:=Evt) (enc:=Evt.cs) (Q:=fun y=>U64 y.ah) (P:=CellsOk g z0lq) (fun c hc=>by
   obtain⟨_,_,rfl,⟨y0,rfl,b0⟩,_,_,rfl,⟨y1,rfl,b1⟩,_,_,rfl,⟨y2,rfl,b2⟩,_,_,rfl,⟨y3,rfl,b3⟩,_,_,rfl,⟨y4,rfl,b4⟩,_,_,rfl,⟨y5,rfl⟩,_,_,rfl,⟨y6,rfl,b6⟩,_,_,rfl,⟨y7,rfl,b7⟩,_,_,rfl,⟨y8,rfl,b8⟩,_,_,rfl,⟨y9,rfl,b9⟩,_,_,rfl,⟨y10,rfl,b10⟩,_,_,rfl,⟨y11,rfl,b11⟩,_,_,rfl,⟨y12,rfl,b12⟩,_,_,rfl,⟨y13,rfl⟩,rfl⟩:=hc
   exact⟨⟨y0,y1,y2,y3,y4,y5,y6,y7,y8,y9,y10,y11,y12,y13⟩,rfl,z0nq b12⟩) n cs h4 h5
  subst e2
  exact⟨ws,.inr ⟨b,_,.ro,rfl,by rw[h3,e1]⟩,e3,h2,h1⟩
theorem rl_k {n:Nat} (h:n<9000):wr .i64 ((n:Int)+1)=((n+1:Nat):Int):=by rw[wr64 (by omega) (by omega)]; rfl
section
variable {h:H}{k:Cfg}{x0 x1:V}{l:List Evt}{o:List Int}
theorem z0fk (ok:h.ok) (hr:k.R=true) (hx:RowE h.get x0 l) (hu:∀y∈l,U64 y.ah) (ho:RowP h x1 o) (hl:o.length<=60) {n:Nat} (hn:n<=o.length) {g:H}{B:MdB}{r:RSt} (X:Mod h k g B r n) (hS:rpS k l (rst0 k) (o.take n)=some r) :
  Ev (S.z5e W x0 x1 (.ptr B.b 0) x1 (o.length:Nat) (n:Nat) g) fun z =>
   (z.1=.ret/\z.2.1=S.z40 x1 (.int .i64 (rpN k l (rst0 k) o:Nat)) (.ptr B.b 0)/\Fr [] h z.2.2) \/
   (z.1=.exit 0/\z.2.1=S.z40 x1 .dead (.ptr B.b 0)/\Fr [] h z.2.2/\rpN k l (rst0 k) o=o.length) \/
   (n<o.length/\z.1=.normal/\z.2.1=S.zg0 x0 x1 (.ptr B.b 0) x1 (.int .i64 (o.length:Nat)) (.int .i64 (n+1:Nat))/\∃B' r',Mod h k z.2.2 B' r' (n+1)/\B'.b=B.b/\rpS k l (rst0 k) (o.take (n+1))=some r'):=by
 by_cases hno:n<o.length
 ·have d:decide ((n:Int)<(o.length:Int))=true:=zll hno
  obtain⟨q,hq⟩:∃q,o[n]?=some q:=⟨_,List.getElem?_eq_getElem hno⟩
  obtain⟨ob,oj,hix,hld,_⟩:=(ho.fr ok X.fr (by simp)).at' n q hq
  have hxl:=hx.len
  by_cases hq0:q<0
  ·have d0:decide (q<0)=true:=decide_eq_true hq0
   simp only[S.z5e,d,hix,zd,hld,zm,d0]
   rw[zqf o n _ hS hq (z033 (.inl hq0))]
   exact Ev.some (.inl ⟨rfl,rfl,X.fr⟩)
  have d0:decide (q<0)=false:=decide_eq_false hq0
  by_cases hqn:(l.length:Int)<=q
  ·have d1:decide ((l.length:Int)<=q)=true:=decide_eq_true hqn
   simp only[S.z5e,d,hix,zd,hld,zm,d0,hxl,d1]
   rw[zqf o n _ hS hq (z033 (.inr hqn))]
   exact Ev.some (.inl ⟨rfl,rfl,X.fr⟩)
  obtain⟨i,rfl,hi⟩:∃i:Nat,q=(i:Int)/\i<l.length:=⟨q.toNat,by omega,by omega⟩
  have d1:decide ((l.length:Int)<=(i:Int))=false:=decide_eq_false hqn
  obtain⟨y,hy⟩:∃y,l[i]?=some y:=⟨_,List.getElem?_eq_getElem hi⟩
  obtain⟨eb,e1,e2,e3,e4⟩:=z06s (hx.fr ok X.fr (by simp)) hy
  obtain⟨⟨v,g6⟩,e6,hv,B',X6,F6,E6⟩:=X.does (c:=y.call) (a:=y.ans) hr (by omega) (hu y (List.mem_of_getElem? hy)) y.client
  dsimp only at hv X6 F6
  subst hv
  have hst:=z0g9 (k:=k) (r:=r) hy
  have wk:=rl_k (n:=n) (by omega)
  cases hok:okR k r y.client y.call y.ans with
  | false =>
   rw[hok] at e6
   rw[hok,if_neg (by decide)] at hst
   simp only[S.z5e,d,hix,zd,hld,zm,d0,hxl,d1,e1,z1v,Nat.add_zero,e2,e3,e4,z02,e6,z0x,Bool.not_false]
   rw[zqf o n _ hS hq hst]
   exact Ev.some (.inl ⟨rfl,rfl,X6.fr⟩)
  | true =>
   rw[hok] at e6
   rw[hok,if_pos rfl] at hst
   simp only[S.z5e,d,hix,zd,hld,zm,d0,hxl,d1,e1,z1v,Nat.add_zero,e2,e3,e4,z02,e6,z0x,Bool.not_true,wk]
   refine Ev.some (.inr (.inr ⟨hno,rfl,rfl,B',_,X6,E6.b,?_⟩))
   rw[z0b2 hq,z087,hS]
   exact hst
 ·have hne:n=o.length:=by omega
  have d:decide ((n:Int)<(o.length:Int))=false:=decide_eq_false (by omega)
  simp only[S.z5e,d]
  rw[hne,List.take_length] at hS
  exact Ev.some (.inr (.inl ⟨rfl,rfl,X.fr,z0ah o _ hS⟩))
theorem z01t (ok:h.ok) (hr:k.R=true) (hx:RowE h.get x0 l) (hu:∀y∈l,U64 y.ah) (ho:RowP h x1 o) (hl:o.length<=60) :
  Ev (C 205 [k.v,x0,x1] h) fun z=>z.1=.int .i64 (rpN k l (rst0 k) o:Nat)/\Fr [] h z.2:=by
 refine z0e (af:=F.z96) (by kernel_rfl) rfl ?_
 have hv:k.v=.agg [.int .i64 k.s,.int .i64 k.a,.int .i64 k.c,.int .i64 k.hd,.int .i64 k.g,.int .i64 k.st]:=rfl
 rw[hv,S.z03z]
 have hp:=ze h (.cells [.int .i64 k.s,.int .i64 k.a,.int .i64 k.c,.int .i64 k.hd,.int .i64 k.g,.int .i64 k.st] .rw)
 have F0:Fr [] h (h.new (.cells [.int .i64 k.s,.int .i64 k.a,.int .i64 k.c,.int .i64 k.hd,.int .i64 k.g,.int .i64 k.st] .rw)):=(Fr.refl ok).new _
 have lk:(h.new (.cells [.int .i64 k.s,.int .i64 k.a,.int .i64 k.c,.int .i64 k.hd,.int .i64 k.g,.int .i64 k.st] .rw)).ldN 6 (.ptr h.next 0)=some k.v:=by rw[zoo hp (show 0+6<=6 from Nat.le_refl _)]; rfl
 obtain⟨⟨v1,g1⟩,e1,B,rfl,F1,X,hB,nB⟩:=Mod.new (h0:=h) hr F0
 dsimp only at F1 X
 have hol:=ho.len
 simp only[S.z96,lk,zd,z02,e1,hol]
 refine z0f (α:=Nat) (fun n=>S.zg0 x0 x1 (.ptr B.b 0) x1 (.int .i64 (o.length:Nat)) (.int .i64 (n:Nat)))
  (fun n g=>n<=o.length/\∃B' r,Mod h k g B' r n/\B'.b=B.b/\rpS k l (rst0 k) (o.take n)=some r) (fun n _=>o.length-n)
  (fun z=>(z.1=.ret/\z.2.1=S.z40 x1 (.int .i64 (rpN k l (rst0 k) o:Nat)) (.ptr B.b 0)/\Fr [] h z.2.2) \/
   (z.1=.exit 0/\z.2.1=S.z40 x1 .dead (.ptr B.b 0)/\Fr [] h z.2.2/\rpN k l (rst0 k) o=o.length)) 0 rfl ⟨Nat.zero_le _,B,_,X,rfl,rfl⟩ ?_ ?_
 rotate_left
 ·rintro⟨_,_,g'⟩ (⟨rfl,rfl,F⟩ | ⟨rfl,rfl,F,hN⟩)
  ·show Ev (S.zgk W .ret _ _) _
   rw[S.zwc]
   exact Ev.some ⟨rfl,F⟩
  ·show Ev (S.zgk W (.exit 0) _ _) _
   have hb:eqV .ptr (.ptr B.b 0) .nilp=some false:=rfl
   rw[S.zum]
   simp only[S.zq6,hb,zd,hol]
   rw[hN]
   exact Ev.some ⟨rfl,F⟩
 rintro n g ⟨hn,B',r,X',hb,hS⟩
 rw[S.z00a,<-hb]
 refine(z0fk ok hr hx hu ho hl hn X' hS).mono ?_
 rintro⟨_,_,g2⟩ (⟨rfl,rfl,F⟩ | ⟨rfl,rfl,F,hN⟩ | ⟨hlt,rfl,rfl,B2,r2,X2,hb2,hS2⟩)
 ·exact .inr ⟨by simp,.inl ⟨rfl,rfl,F⟩⟩
 ·exact .inr ⟨by simp,.inr ⟨rfl,rfl,F,hN⟩⟩
 ·exact .inl ⟨n+1,rfl,rfl,⟨hlt,B2,r2,X2,hb2,hS2⟩,Nat.sub_lt_sub_left hlt (Nat.lt_succ_self n)⟩
end
structure StA (h0:H) (k:Cfg) (g:H) (pS:Nat) (s:StV) (r:RSt) (g0:Nat->Option Blk) (n:Nat):Prop where
 fr:Fr [] h0 g
 st:g.get pS=some (.cells (tCs k s) .rw)
 Z:StAt g0 s r
 sb:Sub g0 g.get
 ps:g0 pS=none/\h0.next<=pS
 I:RIn k r
 sz:RSz k n r
theorem StA.next {h0 g g5 g6:H}{k:Cfg}{pS:Nat}{s t:StV}{r:RSt}{g0:Nat->Option Blk}{n:Nat} (P:StA h0 k g pS s r g0 n) {c:CallR}{a:AnsR} (hu:U64 a.h) (w:Int) (F5:Fr [] g g5) (Z5:StAt (ug g0 g g5) t (doR k r w c a)) (F6:Fr [] g5 g6) :
  StA h0 k (g6.put pS (some (.cells (tCs k t) .rw))) pS t (doR k r w c a) (ug g0 g g5) (n+1):=by
 have F56:=F5.trans' F6
 have hlp:pS<g.next:=P.fr.ok.lt P.st
 have hu0:ug g0 g g5 pS=none:=by rw[z0nw hlp]; exact P.ps.1
 have F06:=P.fr.trans F56 (by simp)
 have hl6:pS<g6.next:=F56.lt hlp
 have Fp:Fr [pS] g6 (g6.put pS (some (.cells (tCs k t) .rw))):=(Fr.refl F56.ok).put (.inl (by simp)) hl6 _
 exact⟨F06.put (.inr P.ps.2) hl6 _,zq _ _ _,Z5,((z0jh P.sb P.fr.ok F5).fr0 F5.ok F6).fr F6.ok Fp (by simpa using hu0),⟨hu0,P.ps.2⟩,P.I.do w c hu,P.sz.do w c a⟩
section
variable {h:H}{k:Cfg}{x0 x1:V}{l:List Evt}{o:List Int}
theorem z0ep (ok:h.ok) (hr:k.R=true) (hx:RowE h.get x0 l) (hu:∀y∈l,U64 y.ah) (ho:RowP h x1 o) (hl:o.length<=60) {n:Nat} (hn:n<=o.length) {g:H}{pS:Nat}{s:StV}{r:RSt}{g0:Nat->Option Blk} (X:StA h k g pS s r g0 n) (hS:rpS k l (rst0 k) (o.take n)=some r) :
  Ev (S.z5n W x0 x1 (.ptr pS 0) (n:Nat) g) fun z =>
   (z.1=.ret/\z.2.1=S.z21 x1 (.int .i64 (rpN k l (rst0 k) o:Nat))/\Fr [] h z.2.2) \/
   (z.1=.exit 0/\z.2.1=S.z21 x1 .dead/\Fr [] h z.2.2/\rpN k l (rst0 k) o=o.length) \/
   (n<o.length/\z.1=.normal/\z.2.1=S.zam x0 x1 (.ptr pS 0) (.int .i64 (n+1:Nat))/\∃s' r' g0',StA h k z.2.2 pS s' r' g0' (n+1)/\rpS k l (rst0 k) (o.take (n+1))=some r'):=by
 have hol:=ho.len
 by_cases hno:n<o.length
 ·have d:decide ((n:Int)<(o.length:Int))=true:=zll hno
  obtain⟨q,hq⟩:∃q,o[n]?=some q:=⟨_,List.getElem?_eq_getElem hno⟩
  obtain⟨ob,oj,hix,hld,_⟩:=(ho.fr ok X.fr (by simp)).at' n q hq
  have hxl:=hx.len
  by_cases hq0:q<0
  ·have d0:decide (q<0)=true:=decide_eq_true hq0
   simp only[S.z5n,hol,d,hix,zd,hld,zm,d0]
   rw[zqf o n _ hS hq (z033 (.inl hq0))]
   exact Ev.some (.inl ⟨rfl,rfl,X.fr⟩)
  have d0:decide (q<0)=false:=decide_eq_false hq0
  by_cases hqn:(l.length:Int)<=q
  ·have d1:decide ((l.length:Int)<=q)=true:=decide_eq_true hqn
   simp only[S.z5n,hol,d,hix,zd,hld,zm,d0,hxl,d1]
   rw[zqf o n _ hS hq (z033 (.inr hqn))]
   exact Ev.some (.inl ⟨rfl,rfl,X.fr⟩)
  obtain⟨i,rfl,hi⟩:∃i:Nat,q=(i:Int)/\i<l.length:=⟨q.toNat,by omega,by omega⟩
  have d1:decide ((l.length:Int)<=(i:Int))=false:=decide_eq_false hqn
  obtain⟨y,hy⟩:∃y,l[i]?=some y:=⟨_,List.getElem?_eq_getElem hi⟩
  obtain⟨eb,e1,e2,e3,e4⟩:=z06s (hx.fr ok X.fr (by simp)) hy
  have hC:=(Cfg.bounds hr).2.2.1
  have hB:=Cfg.R_iff.mp hr
  have lS:g.ldN 11 (.ptr pS 0)=some (s.v k):=by rw[zoo X.st (show 0+11<=11 from Nat.le_refl _)]; rfl
  obtain⟨⟨v5,g5⟩,e5,t,hv5,F5,Z5⟩:=z0eb (k:=k) (c:=y.call) (a:=y.ans) X.fr.ok X.sb X.Z X.I (X.sz.small X.I (by omega) (by omega) (by omega)) (by omega) y.client
  dsimp only at hv5 F5 Z5
  subst hv5
  have tl:(tCs k t).all V.one=true:=zzx k Z5
  obtain⟨g6,e6,F6,ht6,n6⟩:=z0li (cs:=[.int .i64 0,.int .i64 0,.int .i64 0,.int .i64 0,.int .i64 0,.int .i64 0,.nilsl,.nilsl,.nilsl,.nilsl,.nilsl]) (l:=tCs k t) g5 F5.ok rfl tl
  simp only[List.length_cons,List.length_nil,Nat.zero_add,Nat.reduceAdd] at e6
  have hvt:t.v k=.agg (tCs k t):=rfl
  have F06:=X.fr.trans (F5.trans' F6) (by simp)
  have hst:=z0g9 (k:=k) (r:=r) hy
  have wk:=rl_k (n:=n) (by omega)
  have t0:∀b:Bool,([.agg (tCs k t),V.bool b]:List V)[0]?=some (.agg (tCs k t)):=fun _=>rfl
  have t1:∀b:Bool,([.agg (tCs k t),V.bool b]:List V)[1]?=some (.bool b):=fun _=>rfl
  cases hok:okR k r y.client y.call y.ans with
  | false =>
   rw[hok] at e5
   rw[hok,if_neg (by decide)] at hst
   simp only[S.z5n,hol,d,hix,zd,hld,zm,d0,hxl,d1,lS,e1,z1v,Nat.add_zero,e2,e3,e4,z02,e5,t0,t1,hvt,e6,z0x,Bool.not_false]
   rw[zqf o n _ hS hq hst]
   exact Ev.some (.inl ⟨rfl,rfl,F06⟩)
  | true =>
   rw[hok] at e5
   rw[hok,if_pos rfl] at hst
   have hp6:=(F5.trans' F6).get X.fr.ok X.st (by simp)
   have lt6:g6.ldN 11 (.ptr g5.next 0)=some (.agg (tCs k t)):=by rw[zoo ht6 (show 0+11<=11 from Nat.le_refl _)]; rfl
   have hstp:g6.st 11 (.ptr pS 0) (.agg (tCs k t))=some (g6.put pS (some (.cells (tCs k t) .rw))):=by
    rw[z92]
    show Option.map _ (stB (g6.get pS) 0 (tCs k t))=_
    have e:=zz5 (cs:=tCs k s) (l:=tCs k t) rfl tl
    rw[hp6,e]; rfl
   simp only[S.z5n,hol,d,hix,zd,hld,zm,d0,hxl,d1,lS,e1,z1v,Nat.add_zero,e2,e3,e4,z02,e5,t0,t1,hvt,e6,z0x,Bool.not_true,lt6,hstp,wk]
   refine Ev.some (.inr (.inr ⟨hno,rfl,rfl,t,_,_,X.next (hu y (List.mem_of_getElem? hy)) y.client F5 Z5 F6,?_⟩))
   rw[z0b2 hq,z087,hS]
   exact hst
 ·have hne:n=o.length:=by omega
  have d:decide ((n:Int)<(o.length:Int))=false:=decide_eq_false (by omega)
  simp only[S.z5n,hol,zd,d]
  rw[hne,List.take_length] at hS
  exact Ev.some (.inr (.inl ⟨rfl,rfl,X.fr,z0ah o _ hS⟩))
theorem zz9 (ok:h.ok) (hr:k.R=true) (hx:RowE h.get x0 l) (hu:∀y∈l,U64 y.ah) (ho:RowP h x1 o) (hl:o.length<=60) :
  Ev (C 207 [k.v,x0,x1] h) fun z=>z.1=.int .i64 (rpN k l (rst0 k) o:Nat)/\Fr [] h z.2:=by
 refine z0e (af:=F.z3e) (by kernel_rfl) rfl ?_
 have hv:k.v=.agg [.int .i64 k.s,.int .i64 k.a,.int .i64 k.c,.int .i64 k.hd,.int .i64 k.g,.int .i64 k.st]:=rfl
 rw[hv,S.z02q]
 have hp:=ze h (.cells [.int .i64 k.s,.int .i64 k.a,.int .i64 k.c,.int .i64 k.hd,.int .i64 k.g,.int .i64 k.st] .rw)
 have F0:Fr [] h (h.new (.cells [.int .i64 k.s,.int .i64 k.a,.int .i64 k.c,.int .i64 k.hd,.int .i64 k.g,.int .i64 k.st] .rw)):=(Fr.refl ok).new _
 have lk:(h.new (.cells [.int .i64 k.s,.int .i64 k.a,.int .i64 k.c,.int .i64 k.hd,.int .i64 k.g,.int .i64 k.st] .rw)).ldN 6 (.ptr h.next 0)=some k.v:=by rw[zoo hp (show 0+6<=6 from Nat.le_refl _)]; rfl
 simp only[S.z3e]
 generalize (h.new (.cells [.int .i64 k.s,.int .i64 k.a,.int .i64 k.c,.int .i64 k.hd,.int .i64 k.g,.int .i64 k.st] .rw))=g1 at hp F0 lk ⊢
 obtain⟨⟨v2,g2⟩,e2,s,hv2,F2,Z2⟩:=z0fs hr F0.ok (fun _=>none)
 dsimp only at hv2 F2 Z2
 subst hv2
 have tl:(tCs k s).all V.one=true:=zzx k Z2
 obtain⟨g3,e3,F3,ht3,n3⟩:=z0li (cs:=[.int .i64 0,.int .i64 0,.int .i64 0,.int .i64 0,.int .i64 0,.int .i64 0,.nilsl,.nilsl,.nilsl,.nilsl,.nilsl]) (l:=tCs k s) g2 F2.ok rfl tl
 simp only[List.length_cons,List.length_nil,Nat.zero_add,Nat.reduceAdd] at e3
 have hvs:s.v k=.agg (tCs k s):=rfl
 have X:StA h k g3 g2.next s (rst0 k) (ug (fun _=>none) g1 g2) 0 :=
  ⟨(F0.trans F2 (by simp)).trans F3 (by simp),ht3,Z2,(z0jh (fun b x hb=>by cases hb) F0.ok F2).fr0 F2.ok F3,⟨by rw[z6w F2.le]; exact F2.ok _ (Nat.le_refl _),Nat.le_trans F0.le F2.le⟩,z0g1 k,z0ga k⟩
 have hol:=ho.len
 simp only[lk,zd,z02,e2,hvs,e3]
 refine z0f (α:=Nat) (fun n=>S.zam x0 x1 (.ptr g2.next 0) (.int .i64 (n:Nat)))
  (fun n g=>n<=o.length/\∃s' r g0,StA h k g g2.next s' r g0 n/\rpS k l (rst0 k) (o.take n)=some r) (fun n _=>o.length-n)
  (fun z=>(z.1=.ret/\z.2.1=S.z21 x1 (.int .i64 (rpN k l (rst0 k) o:Nat))/\Fr [] h z.2.2) \/
   (z.1=.exit 0/\z.2.1=S.z21 x1 .dead/\Fr [] h z.2.2/\rpN k l (rst0 k) o=o.length)) 0 rfl ⟨Nat.zero_le _,s,_,_,X,rfl⟩ ?_ ?_
 rotate_left
 ·rintro⟨_,_,g'⟩ (⟨rfl,rfl,F⟩ | ⟨rfl,rfl,F,hN⟩)
  ·show Ev (S.zca W .ret _ _) _
   rw[S.zyg]
   exact Ev.some ⟨rfl,F⟩
  ·show Ev (S.zca W (.exit 0) _ _) _
   rw[S.zx6]
   simp only[S.zos,zd,hol]
   rw[hN]
   exact Ev.some ⟨rfl,F⟩
 rintro n g ⟨hn,s',r,g0,X',hS⟩
 rw[S.z00r]
 refine(z0ep ok hr hx hu ho hl hn X' hS).mono ?_
 rintro⟨_,_,g2⟩ (⟨rfl,rfl,F⟩ | ⟨rfl,rfl,F,hN⟩ | ⟨hlt,rfl,rfl,s2,r2,g02,X2,hS2⟩)
 ·exact .inr ⟨by simp,.inl ⟨rfl,rfl,F⟩⟩
 ·exact .inr ⟨by simp,.inr ⟨rfl,rfl,F,hN⟩⟩
 ·exact .inl ⟨n+1,rfl,rfl,⟨hlt,s2,r2,g02,X2,hS2⟩,Nat.sub_lt_sub_left hlt (Nat.lt_succ_self n)⟩
end
theorem z0hp (g:H) (w:Int):C 279 [.nilp,.int .i64 w] g=some (.bool false,g):=by
 have e:Ev (C 279 [.nilp,.int .i64 w] g) fun z=>z=(.bool false,g):=by
  refine z0e (af:=F.z36) (by kernel_rfl) rfl ?_
  rw[S.zqk]
  have hb:eqV .ptr .nilp .nilp=some true:=rfl
  simp only[S.z36,hb,zd,Bool.not_true]
  exact Ev.some rfl
 obtain⟨z,e,rfl⟩:=e
 exact e
theorem z0kf {g:H} (ok:g.ok) (w k n a b c s t:Int) (u:Bool):Ev (C 103 [.nilp,.int .i64 w,.agg [.int .i64 k,.int .i64 n,.int .u64 a,.int .u64 b,.int .u64 c],.agg [.int .i64 s,.int .u64 t,.bool u]] g) fun z=>z.1=.bool false/\Fr [] g z.2:=by
 refine z0e (af:=F.z1c) (by kernel_rfl) rfl ?_
 show Ev (z06 W F.z1c [.nilp,.int .i64 w,.agg [.int .i64 k,.int .i64 n,.int .u64 a,.int .u64 b,.int .u64 c],.agg [.int .i64 s,.int .u64 t,.bool u]] g) _
 rw[S.zuo]
 simp only[S.z1c,z02,z0hp,zd,z0x,Bool.not_false]
 exact Ev.some ⟨rfl,((Fr.refl ok).new _).new _⟩
open Go.Sort (swp)
def ints (d:Array Int):List V:=d.toList.map (V.int .i64)
theorem z07y (d:Array Int):(ints d).length=d.size:=by unfold ints; rw[List.length_map]; rfl
theorem z0d5 {d:Array Int}{i:Nat} (h:i<d.size):(ints d)[i]?=some (.int .i64 d[i]!):=by
 unfold ints
 rw[List.getElem?_map,Array.getElem?_toList,Array.getElem?_eq_getElem h,getElem!_pos d i h]; rfl
theorem z0bd {d:Array Int}{i:Nat}{v:Int}:(ints d).set i (.int .i64 v)=ints (d.setIfInBounds i v):=by
 unfold ints
 rw[Array.toList_setIfInBounds,List.map_set]
structure Sw (h0:H) (b N:Nat) (h:H) (d:Array Int):Prop where
 fr:Fr [b] h0 h
 at_:h.get b=some (.cells (ints d) .rw)
 sz:d.size=N
 inr:∀i,i<N->0<=d[i]! /\ d[i]! < N
def Cmp (h0:H) (b N f:Nat) (cs:List V) (lt:Int->Int->Bool):Prop :=
 ∀h,Fr [b] h0 h->∀i j:Int,0<=i->i<N->0<=j->j<N->∃n h',C f ([.int .i64 i,.int .i64 j] ++ cs) h=some (.int .i64 n,h')/\decide (n<0)=lt i j/\Fr [] h h'
section
variable {h0 h:H}{b N:Nat}{d:Array Int}
theorem Sw.ok (S:Sw h0 b N h d):h.ok:=S.fr.ok
theorem Sw.ld (S:Sw h0 b N h d) {i:Nat} (hi:i<N):ldB (h.get b) i=some (.int .i64 d[i]!):=by
 rw[S.at_,z08,z0d5 (by rw[S.sz]; exact hi)]; rfl
theorem Sw.fr0 (S:Sw h0 b N h d) {h':H} (F:Fr [] h h'):Sw h0 b N h' d :=
 ⟨S.fr.trans F (fun _ q=>by simp at q),F.get S.ok S.at_ (by simp),S.sz,S.inr⟩
theorem Sw.fr' (S:Sw h0 b N h d) {h':H}{q:Nat} (F:Fr [q] h h') (hq:h0.next<=q) (hn:q≠b):Sw h0 b N h' d :=
 ⟨S.fr.trans F (fun x hx=>by rw[List.mem_singleton] at hx; exact .inr (hx ▸ hq)),F.get S.ok S.at_ (by simpa using fun e=>hn e.symm),S.sz,S.inr⟩
theorem Sw.cmp (S:Sw h0 b N h d) {f:Nat}{cs:List V}{lt:Int->Int->Bool} (K:Cmp h0 b N f cs lt) {i j:Nat} (hi:i<N) (hj:j<N) :
  ∃n h',(∀ {R:Type} (k:V × H->Option R),z7w W (.fn f cs) [.int .i64 d[i]!,.int .i64 d[j]!] h k=k (.int .i64 n,h'))/\decide (n<0)=lt d[i]! d[j]! /\ Sw h0 b N h' d/\Fr [] h h':=by
 obtain⟨n,h',e,hn,F⟩:=K h S.fr d[i]! d[j]! (S.inr i hi).1 (S.inr i hi).2 (S.inr j hj).1 (S.inr j hj).2
 exact⟨n,h',fun k=>z0if (M:=W) e k,hn,S.fr0 F,F⟩
theorem Sw.swap (S:Sw h0 b N h d) {i j:Nat} (hi:i<N) (hj:j<N) :
  ∃h1 h2,h.st 1 (.ptr b i) (.int .i64 d[j]!)=some h1/\h1.st 1 (.ptr b j) (.int .i64 d[i]!)=some h2/\Sw h0 b N h2 (swp d i j)/\Fr [b] h h2:=by
 have hl:b<h.next:=S.ok.lt S.at_
 have e1:=zr7 S.at_ (by simp) (z97 .i64 d[j]!) (by rw[z07y,S.sz]; exact hi)
 rw[z0bd] at e1
 have g1:(h.put b (some (.cells (ints (d.setIfInBounds i d[j]!)) .rw))).get b=some (.cells (ints (d.setIfInBounds i d[j]!)) .rw):=zq _ _ _
 have e2:=zr7 g1 (by simp) (z97 .i64 d[i]!) (by rw[z07y,Array.size_setIfInBounds,S.sz]; exact hj)
 rw[z0bd,zce] at e2
 have F2:Fr [b] h (h.put b (some (.cells (ints (swp d i j)) .rw))):=(Fr.refl S.ok).put (.inl (by simp)) hl _
 refine⟨_,_,e1,e2,⟨S.fr.trans' F2,zq _ _ _,by rw[Go.Sort.swp_size]; exact S.sz,fun k hk => ?_⟩,F2⟩
 by_cases hkj:k=j
 ·subst hkj
  rw[Go.Sort.swp_right _ _ _ (by rw[S.sz]; exact hj)]; exact S.inr i hi
 by_cases hki:k=i
 ·subst hki
  rw[Go.Sort.swp_left _ _ _ (by rw[S.sz]; exact hi) hkj]; exact S.inr j hj
 ·rw[Go.Sort.swp_other _ _ _ _ hki hkj]; exact S.inr k hk
end
open Go.Sort (swp insInner insOuter)
section
variable {h0 h:H}{b N f:Nat}{cs:List V}{lt:Int->Int->Bool}{d:Array Int}{c:Cap}
theorem z2b {i j:Nat} (h:i<j):decide ((i:Int)<(j:Int))=true:=decide_eq_true (by omega)
theorem z37 {i j:Nat} (h:¬i<j):decide ((i:Int)<(j:Int))=false:=decide_eq_false (by omega)
theorem z3n {i:Nat} (h:i+1<=9000):wr .i64 (((i+1:Nat):Int)-1)=(i:Int):=by rw[wr64 (by omega) (by omega)]; omega
theorem z20 {i:Nat} (h:i<=9000):wr .i64 ((i:Int)+1)=((i+1:Nat):Int):=by rw[wr64 (by omega) (by omega)]; omega
theorem z0c5 {a j:Nat}{d:Array Int} (h:¬a<j):insInner lt a j d=d:=by
 cases j with
 | zero=>rfl
 | succ j=>rw[insInner,if_neg (by simp[show ¬j+1 > a from h])]
theorem z0cl (A:Sw h0 b N h d) (K:Cmp h0 b N f cs lt) (hN:N<=1000) {a e i:Nat} (hi:i<N) :
  Ev ((W.loop (S.z80 W) (S.z2s (.sl b 0 N c) (.int .i64 (a:Int)) (.int .i64 (e:Int)) (.fn f cs) (.int .i64 (i:Int)) (.int .i64 (i:Int))) h).bind fun z=>S.z5t W z.1 z.2.1 z.2.2)
   fun z=>z.1=.normal/\z.2.1=S.z2p (.sl b 0 N c) (.int .i64 (a:Int)) (.int .i64 (e:Int)) (.fn f cs) (.int .i64 ((i+1:Nat):Int))/\Sw h0 b N z.2.2 (insInner lt a i d):=by
 refine z0f (α:=Nat × Array Int) (fun q=>S.z2s (.sl b 0 N c) (.int .i64 (a:Int)) (.int .i64 (e:Int)) (.fn f cs) (.int .i64 (i:Int)) (.int .i64 (q.1:Int)))
  (fun q h=>q.1<N/\Sw h0 b N h q.2/\insInner lt a q.1 q.2=insInner lt a i d) (fun q _=>q.1)
  (fun z=>z.1=.exit 2/\z.2.1=S.z52 (.sl b 0 N c) (.int .i64 (a:Int)) (.int .i64 (e:Int)) (.fn f cs) (.int .i64 (i:Int))/\Sw h0 b N z.2.2 (insInner lt a i d)) (i,d) rfl ⟨hi,A,rfl⟩ ?_ ?_
 rotate_left
 ·rintro⟨_,_,g⟩ ⟨rfl,rfl,A⟩
  show Ev (S.z5t W (.exit 2) _ _) _
  rw[S.zl1]
  simp only[S.zdm,z20 (i:=i) (by omega)]
  exact Ev.some ⟨rfl,rfl,A⟩
 rintro⟨j,d1⟩ g ⟨hj,A,hd⟩
 dsimp only at hj A hd
 rw[S.zmf]
 by_cases haj:a<j
 ·obtain⟨k,rfl⟩:∃k,j=k+1:=⟨j-1,by omega⟩
  have hk:k<N:=Nat.lt_of_succ_lt hj
  have c1:=z2b haj
  have wp:=z3n (i:=k) (by omega)
  have i1:=zs (b:=b) (c:=c) hj
  have i2:=zs (b:=b) (c:=c) hk
  have l1:=A.ld hj
  have l2:=A.ld hk
  obtain⟨n,g1,ec,hn,A1,_⟩:=A.cmp K hj hk
  have l3:=A1.ld hj
  have l4:=A1.ld hk
  obtain⟨g2,g3,s1,s2,A3,_⟩:=A1.swap hj hk
  rw[insInner] at hd
  cases hl:lt d1[k+1]! d1[k]! with
  | true =>
   rw[if_pos (by rw[hl]; simpa using haj)] at hd
   simp only[S.z53,c1,wp,i1,i2,zd,zk,l1,l2,ec,zm,hn,hl,l3,l4,s1,s2]
   exact Ev.some (.inl ⟨(k,swp d1 (k+1) k),rfl,rfl,⟨hk,A3,hd⟩,Nat.lt_succ_self k⟩)
  | false =>
   rw[if_neg (by rw[hl]; simp)] at hd
   simp only[S.z53,c1,wp,i1,i2,zd,zk,l1,l2,ec,zm,hn,hl]
   exact Ev.some (.inr ⟨by simp,rfl,rfl,hd ▸ A1⟩)
 ·rw[z0c5 haj] at hd
  simp only[S.z53,z37 haj]
  exact Ev.some (.inr ⟨by simp,rfl,rfl,hd ▸ A⟩)
theorem zvj (A:Sw h0 b N h d) (K:Cmp h0 b N f cs lt) (hN:N<=1000) {a e:Nat} (he:e<=N) (ha:a<=N) :
  Ev (C 450 [.sl b 0 N c,.int .i64 (a:Int),.int .i64 (e:Int),.fn f cs] h) fun z=>z.1=.tup []/\Sw h0 b N z.2 (Go.Sort.insertionSort lt d a e):=by
 refine z0e (af:=F.z09) (by kernel_rfl) rfl ?_
 rw[S.zo3]
 simp only[S.z09,z20 (i:=a) (by omega)]
 unfold Go.Sort.insertionSort
 refine z0f (α:=Nat × Array Int) (fun q=>S.z2p (.sl b 0 N c) (.int .i64 (a:Int)) (.int .i64 (e:Int)) (.fn f cs) (.int .i64 (q.1:Int)))
  (fun q h=>Sw h0 b N h q.2/\insOuter lt a e q.1 q.2=insOuter lt a e (a+1) d) (fun q _=>e-q.1)
  (fun z=>z.1=.exit 0/\z.2.1=S.z83/\Sw h0 b N z.2.2 (insOuter lt a e (a+1) d)) (a+1,d) rfl ⟨A,rfl⟩ ?_ ?_
 rotate_left
 ·rintro⟨_,_,g⟩ ⟨rfl,rfl,A⟩
  show Ev (S.z9b W (.exit 0) _ _) _
  rw[S.zl0]
  exact Ev.some ⟨rfl,A⟩
 rintro⟨i,d1⟩ g ⟨A,hd⟩
 dsimp only at A hd
 rw[S.zmg]
 rw[insOuter] at hd
 by_cases hi:i<e
 ·rw[if_pos hi] at hd
  simp only[S.z86,z2b hi]
  refine(z0cl A K hN (a:=a) (e:=e) (Nat.lt_of_lt_of_le hi he)).mono ?_
  rintro⟨_,_,g1⟩ ⟨rfl,rfl,A1⟩
  exact .inl ⟨(i+1,insInner lt a i d1),rfl,rfl,⟨A1,hd⟩,Nat.sub_lt_sub_left hi (Nat.lt_succ_self i)⟩
 ·rw[if_neg hi] at hd
  simp only[S.z86,z37 hi]
  exact Ev.some (.inr ⟨by simp,rfl,rfl,hd ▸ A⟩)
end
end Wm
end
