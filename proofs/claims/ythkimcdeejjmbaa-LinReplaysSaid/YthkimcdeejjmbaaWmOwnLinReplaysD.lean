/- What the functions come to, and the law: of my machine. -/
import Derived.Test.YthkimcdeejjmbaaWmOwnLinReplaysC
import Derived.Test.YthkimcdeejjmbaaWmTxtLinReplaysE
import Derived.Test.YthkimcdeejjmbaaWmTxtLinReplaysF
import Derived.Test.YthkimcdeejjmbaaWmOwnLinReplaysB
import Derived.Test.YthkimcdeejjmbaaWmProgLinReplays
import Derived.Test.YthkimcdeejjmbaaWmFast
import Derived.Test.YthkimcdeejjmbaaWmPOp0
set_option linter.all false
noncomputable section
namespace Wm
attribute [local congr] zi
attribute [local irreducible] wr
open Go.Sort (swp PermIn SortedIn SWO)
theorem z0bb (x y:Evt):zxn x y=true<->x.point<y.point\/(x.point=y.point/\(bI x.behind<bI y.behind\/(bI x.behind=bI y.behind/\(x.client<y.client\/(x.client=y.client/\x.op<y.op))))):=by
 have hb:(x.behind=y.behind)<->bI x.behind=bI y.behind:=by
  cases x.behind <;> cases y.behind <;> simp[bI]
 have hb2:y.behind=true/\x.behind≠y.behind<->bI x.behind<bI y.behind:=by
  cases x.behind <;> cases y.behind <;> simp[bI]
 unfold zxn
 by_cases h1:x.point=y.point
 ·rw[if_pos h1]
  by_cases h2:x.behind=y.behind
  ·rw[if_pos h2]
   have h2':=hb.mp h2
   by_cases h3:x.client=y.client
   ·rw[if_pos h3,decide_eq_true_eq]; omega
   ·rw[if_neg h3,decide_eq_true_eq]; omega
  ·rw[if_neg h2]
   have h4:y.behind=true<->bI x.behind<bI y.behind:=by rw[<-hb2]; exact⟨fun z=>⟨z,h2⟩,fun z=>z.1⟩
   have h2':¬bI x.behind=bI y.behind:=fun z=>h2 (hb.mpr z)
   rw[h4]; omega
 ·rw[if_neg h1,decide_eq_true_eq]; omega
theorem z07t (x y:Evt):zxn x y=false<->¬(x.point<y.point\/(x.point=y.point/\(bI x.behind<bI y.behind\/(bI x.behind=bI y.behind/\(x.client<y.client\/(x.client=y.client/\x.op<y.op)))))):=by
 rw[<-z0bb]; simp
def evt0:Evt:=⟨0,0,0,0,0,false,0,0,0,0,0,0,0,false⟩
def evAt (l:List Evt) (i:Int):Evt:=(l[i.toNat]?).getD evt0
def ltO (l:List Evt) (i j:Int):Bool:=zxn (evAt l i) (evAt l j)
theorem z07h (l:List Evt):SWO (ltO l) where
 irrefl x:=by unfold ltO; rw[z07t]; omega
 trans x y z h1 h2:=by unfold ltO at *; rw[z0bb] at *; omega
 ntrans x y z h1 h2:=by unfold ltO at *; rw[z07t] at *; omega
theorem z03j {l:List Evt}{i:Nat}{x:Evt} (h:l[i]?=some x):evAt l (i:Int)=x:=by
 unfold evAt; rw[Int.toNat_natCast,h]; rfl
structure OrdL (l:List Evt) (o:List Int):Prop where
 all:AllNums l.length o
 sorted:o.Pairwise (fun x y=>ltS (ltO l) y x=false)
theorem OrdL.unique {l:List Evt}{o p:List Int} (h1:OrdL l o) (h2:OrdL l p):o=p :=
 List.Perm.eq_of_pairwise (fun a b _ _ e1 e2=>(z0jk b a e1 e2).symm) h1.sorted h2.sorted (h1.all.perm.trans h2.all.perm.symm)
theorem z0ju {h0:H}{b bx:Nat}{x0:V}{l:List Evt} (ok:h0.ok) (hb:h0.get bx=some (.cells [x0] .rw)) (h1:x0.one=true) (hx:RowE h0.get x0 l) (n1:bx≠b) (n2:∀q∈x0.blk,q≠b):Cmp h0 b l.length 336 [.ptr bx 0] (ltO l):=by
 intro h F i j i0 i1 j0 j1
 obtain⟨i',rfl⟩:∃n:Nat,i=(n:Int):=⟨i.toNat,by omega⟩
 obtain⟨j',rfl⟩:∃n:Nat,j=(n:Int):=⟨j.toNat,by omega⟩
 obtain⟨x,hxi⟩:∃x,l[i']?=some x:=⟨_,List.getElem?_eq_getElem (by omega)⟩
 obtain⟨y,hyj⟩:∃x,l[j']?=some x:=⟨_,List.getElem?_eq_getElem (by omega)⟩
 obtain⟨⟨v,g⟩,e,rfl,F2⟩:=z0f9 F.ok (F.get ok hb (by simpa using n1)) h1 (hx.fr ok F (fun q hq=>by simpa using n2 q hq)) hxi hyj
 refine⟨_,g,e,?_,F2⟩
 rw[z0lf]
 unfold ltO
 rw[z03j hxi,z03j hyj]
theorem z0hs {h:H} (ok:h.ok) {x0:V}{l:List Evt} (hx:RowE h.get x0 l) (hl:l.length<=60) :
  Ev (C 181 [x0] h) fun r=>∃o,OrdL l o/\RowN .i64 r.2.get r.1 o/\(∀b∈r.1.blk,h.next<=b)/\Fr [] h r.2:=by
 refine z0e (af:=F.zcj) (by kernel_rfl) rfl ?_
 rw[S.z0cc]
 have bx:=z0eo hx
 have h1:=z0dv hx
 have hxl:=hx.len
 have F0:Fr [] h (h.new (.cells [x0] .rw)):=(Fr.refl ok).new _
 have g1:(h.new (.cells [x0] .rw)).get h.next=some (.cells [x0] .rw):=ze _ _
 have l1:(h.new (.cells [x0] .rw)).ld1 (.ptr h.next 0)=some x0:=z26 g1 rfl h1
 have n1:(h.new (.cells [x0] .rw)).next=h.next+1:=rfl
 have mk:=z0jr (h:=h.new (.cells [x0] .rw)) (n:=l.length) (Nat.le_trans hl (by decide))
 rw[n1] at mk
 simp only[S.zcj,bx,zd,l1,hxl,mk,z5p]
 have F1:=F0.new (.cells (zi7 l.length 0) .rw)
 generalize hgg:(h.new (.cells [x0] .rw)).new (.cells (zi7 l.length 0) .rw)=g at F1
 have b1:g.get h.next=some (.cells [x0] .rw):=by rw[<-hgg,z0z (by rw[n1]; omega)]; exact g1
 have b3:g.get (h.next+1)=some (.cells (zi7 l.length 0) .rw):=by rw[<-hgg,<-n1]; exact ze _ _
 clear hgg mk l1 g1 n1 F0
 refine z0f (α:=Nat) (fun k=>S.zmn (.ptr h.next 0) (.sl (h.next+1) 0 l.length (.ex l.length)) (.int .i64 (l.length:Nat)) (.int .i64 (k:Nat)))
  (fun k g=>k<=l.length/\Fr [] h g/\g.get h.next=some (.cells [x0] .rw)/\g.get (h.next+1)=some (.cells (zi7 l.length k) .rw)) (fun k _=>l.length-k)
  (fun r=>r.1=.exit 0/\r.2.1=S.zsq (.ptr h.next 0) (.sl (h.next+1) 0 l.length (.ex l.length))/\Fr [] h r.2.2/\r.2.2.get h.next=some (.cells [x0] .rw)/\r.2.2.get (h.next+1)=some (.cells (ints (idA l.length)) .rw))
  0 rfl ⟨Nat.zero_le _,F1,b1,b3⟩ ?_ ?_
 ·clear b1 b3 F1
  rintro k g ⟨hk,F,b1,b3⟩
  rw[S.z08g]
  by_cases hkl:k<l.length
  ·have hd:decide ((k:Int)<(l.length:Int))=true:=decide_eq_true (by omega)
   have wk:=hr_k (k:=k) (by omega)
   have i0:=zs (b:=h.next+1) (c:=.ex l.length) hkl
   have s0:=zr7 b3 (by simp) (z97 .i64 (k:Int)) (by rw[zqn]; exact hkl)
   rw[z0bh hkl] at s0
   simp only[S.ztd,hd,i0,zd,s0,wk]
   exact Ev.some (.inl ⟨k+1,rfl,rfl,⟨hkl,F.put (.inr (by omega)) (F.ok.lt b3) _,by rw[zf (by omega)]; exact b1,zq _ _ _⟩,Nat.sub_lt_sub_left hkl (Nat.lt_succ_self k)⟩)
  ·have hke:k=l.length:=Nat.le_antisymm hk (Nat.le_of_not_lt hkl)
   have hd:decide ((k:Int)<(l.length:Int))=false:=decide_eq_false (by omega)
   simp only[S.ztd,hd]
   rw[hke,z0ay] at b3
   exact Ev.some (.inr ⟨by simp,rfl,rfl,F,b1,b3⟩)
 clear b1 b3 F1
 rintro⟨_,_,g⟩ ⟨rfl,rfl,F,b1,b3⟩
 dsimp only at F b1 b3
 show Ev (S.zxa W (.exit 0) _ _) _
 rw[S.z05v]
 have A0:Sw g (h.next+1) l.length g (idA l.length):=⟨Fr.refl F.ok,b3,z02w _,fun i hi=>by rw[z02o hi]; omega⟩
 have hxg:=hx.fr ok F (by simp)
 have K:Cmp g (h.next+1) l.length 336 [.ptr h.next 0] (ltO l):=z0ju F.ok b1 h1 hxg (by omega) (fun q hq=>by have:=hx.lt ok q hq; omega)
 obtain⟨⟨v,g2⟩,e2,R,rfl,r1,r2,A2⟩:=z08y (c:=.ex l.length) A0 K (z07h l) (by omega)
 dsimp only at A2
 simp only[S.z00b,z02,e2,zd]
 have P:=AllNums.of A2.sz r1
 have F2:Fr [] h g2:=F.trans A2.fr (fun q hq=>by rw[List.mem_singleton] at hq; exact .inr (by omega))
 have hlen:R.toList.length=l.length:=by rw[Array.length_toList]; exact A2.sz
 refine Ev.some ⟨R.toList,⟨P,?_⟩,.inr ⟨h.next+1,.ex l.length,.rw,by rw[hlen],A2.at_⟩,fun q hq => ?_,F2⟩
 ·rw[List.pairwise_iff_getElem]
  intro i j hi hj hij
  have hi':i<R.size:=by rw[Array.length_toList] at hi; exact hi
  have hj':j<R.size:=by rw[Array.length_toList] at hj; exact hj
  have e1:R.toList[i]=R[i]! := Option.some.inj (by rw[<-List.getElem?_eq_getElem hi,ztt hi'])
  have e2:R.toList[j]=R[j]! := Option.some.inj (by rw[<-List.getElem?_eq_getElem hj,ztt hj'])
  rw[e1,e2]
  exact r2 i j (Nat.zero_le _) hij (by rw[<-A2.sz]; exact hj')
 ·simp only[V.blk,List.mem_singleton] at hq; omega
def rng (n:Nat):List Int:=(List.range n).map (fun i:Nat=>(i:Int))
theorem z0gp {n:Nat}{v:Int}:v∈rng n<->∃i:Nat,i<n/\v=(i:Int):=by
 unfold rng
 rw[List.mem_map]
 exact⟨fun ⟨i,h1,h2⟩=>⟨i,List.mem_range.mp h1,h2.symm⟩,fun ⟨i,h1,h2⟩=>⟨i,List.mem_range.mpr h1,h2.symm⟩⟩
theorem z0bk (n:Nat):(rng n).Nodup:=List.pairwise_map.mpr (List.nodup_range.imp fun h e=>h (Int.ofNat.inj e))
theorem z0go (n:Nat):(rng n).length=n:=by unfold rng; rw[List.length_map,List.length_range]
structure Pick (l:List Evt) (o:List Int) (us:List Bool):Prop where
 len:us.length=l.length
 use:∀i,i<l.length->us[i]?=some (decide ((i:Int)∈o))
 nd:o.Nodup
 inr:∀v∈o,v∈rng l.length
 sorted:o.Pairwise (fun x y=>ltS (ltO l) y x=false)
 rest:∀v∈o,∀i:Nat,i<l.length->(i:Int)∉o->ltS (ltO l) (i:Int) v=false
theorem Pick.zero (l:List Evt):Pick l [] (List.replicate l.length false) :=
 ⟨List.length_replicate,fun i hi=>by rw[List.getElem?_replicate,if_pos hi]; simp,List.nodup_nil,by simp,List.Pairwise.nil,by simp⟩
theorem Pick.some {l:List Evt}{o:List Int}{us:List Bool} (P:Pick l o us) (h:o.length<l.length):∃i:Nat,i<l.length/\(i:Int)∉o:=by
 refine Classical.byContradiction fun hn => ?_
 have:rng l.length ⊆ o:=fun v hv=>by
  obtain⟨i,hi,rfl⟩:=z0gp.mp hv
  refine Classical.byContradiction fun hv=>hn ⟨i,hi,hv⟩
 have:=(z0bk l.length).length_le_of_subset this
 rw[z0go] at this
 omega
theorem Pick.ord {l:List Evt}{o:List Int}{us:List Bool} (P:Pick l o us) (h:o.length=l.length):OrdL l o:=by
 refine⟨⟨h,?_⟩,P.sorted⟩
 rw[List.perm_iff_count]
 intro a
 show List.count a o=List.count a (rng l.length)
 rw[P.nd.count,(z0bk l.length).count]
 by_cases ha:a∈o
 ·rw[if_pos ha,if_pos (P.inr a ha)]
 ·rw[if_neg ha,if_neg]
  intro hr
  have nd:(a :: o).Nodup:=List.nodup_cons.mpr ⟨ha,P.nd⟩
  have:(a :: o) ⊆ rng l.length:=fun v hv=>by
   rcases List.mem_cons.mp hv with rfl | hv
   ·exact hr
   ·exact P.inr v hv
  have:=nd.length_le_of_subset this
  rw[z0go,List.length_cons] at this
  omega
theorem Pick.step {l:List Evt}{o:List Int}{us:List Bool} (P:Pick l o us) {k:Nat} (hk:k<l.length) (hn:(k:Int)∉o) (hmin:∀i:Nat,i<l.length->(i:Int)∉o->ltS (ltO l) (i:Int) (k:Int)=false):Pick l (o ++ [(k:Int)]) (us.set k true):=by
 refine⟨by rw[List.length_set]; exact P.len,fun i hi => ?_,?_,fun v hv => ?_,?_,fun v hv i hi hni => ?_⟩
 ·by_cases h:k=i
  ·subst h
   rw[List.getElem?_set_self (by rw[P.len]; exact hk)]; simp
  ·rw[List.getElem?_set_ne h,P.use i hi]
   congr 1
   rw[decide_eq_decide]
   have:¬(i:Int)=(k:Int):=fun e=>h (Int.ofNat.inj e).symm
   simp[this]
 ·rw[List.nodup_append]
  refine⟨P.nd,by simp,fun a ha b hb e => ?_⟩
  rw[List.mem_singleton] at hb
  subst e; subst hb; exact hn ha
 ·rcases List.mem_append.mp hv with hv | hv
  ·exact P.inr v hv
  ·rw[List.mem_singleton] at hv; subst hv; exact z0gp.mpr ⟨k,hk,rfl⟩
 ·rw[List.pairwise_append]
  refine⟨P.sorted,List.pairwise_singleton _ _,fun a ha b hb => ?_⟩
  rw[List.mem_singleton] at hb
  subst hb
  exact P.rest a ha k hk hn
 ·have hni':(i:Int)∉o:=fun z=>hni (List.mem_append.mpr (.inl z))
  rcases List.mem_append.mp hv with hv | hv
  ·exact P.rest v hv i hi hni'
  ·rw[List.mem_singleton] at hv; subst hv; exact hmin i hi hni'
def Best (l:List Evt) (o:List Int) (i:Nat) (k:Int):Prop :=
 (k = -1/\∀j:Nat,j<i->(j:Int)∈o)\/∃q:Nat,k=(q:Int)/\q<i/\(q:Int)∉o/\∀j:Nat,j<i->(j:Int)∉o->ltS (ltO l) (j:Int) (q:Int)=false
structure RoSt (h g:H) (x3:V) (o:List Int) (ub:Nat) (us:List Bool):Prop where
 fr:Fr [] h g
 row:Grown g.get x3 1 (o.map (.int .i64))
 blk:∀b∈x3.blk,h.next<=b
 use:g.get ub=some (.cells (z8h us) .rw)
 nub:h.next<=ub
theorem z0fe {h g:H} (ok:h.ok) {x0:V}{l:List Evt} (hx:RowE h.get x0 l) (hl:l.length<=60) {x3:V}{o:List Int}{ub:Nat}{us:List Bool} (Z:RoSt h g x3 o ub us) (P:Pick l o us) (r:Nat) (hr:o.length<l.length) (K:AX × List V × H->Option (AX × List V × H)) (Q:AX × List V × H->Prop)
  (out:∀k:Nat,k<l.length->(k:Int)∉o->(∀i:Nat,i<l.length->(i:Int)∉o->ltS (ltO l) (i:Int) (k:Int)=false)->Ev (K (.exit 2,S.zg5 x0 x3 (.sl ub 0 l.length (.ex l.length)) (.int .i64 (r:Nat)) (.int .i64 (k:Nat)),g)) Q) :
  Ev ((W.loop (S.zkp W) (S.z4h x0 x3 (.sl ub 0 l.length (.ex l.length)) (.int .i64 (r:Nat)) (.int .i64 (-1)) (.int .i64 0)) g).bind K) Q:=by
 refine z0f (α:=Nat × Int) (fun y=>S.z4h x0 x3 (.sl ub 0 l.length (.ex l.length)) (.int .i64 (r:Nat)) (.int .i64 y.2) (.int .i64 (y.1:Nat)))
  (fun y g'=>y.1<=l.length/\g'=g/\Best l o y.1 y.2) (fun y _=>l.length-y.1)
  (fun z=>z.2.2=g/\∃k:Nat,z.1=.exit 2/\z.2.1=S.zg5 x0 x3 (.sl ub 0 l.length (.ex l.length)) (.int .i64 (r:Nat)) (.int .i64 (k:Nat))/\k<l.length/\(k:Int)∉o/\(∀i:Nat,i<l.length->(i:Int)∉o->ltS (ltO l) (i:Int) (k:Int)=false)) (0,-1) rfl ⟨Nat.zero_le _,rfl,.inl ⟨rfl,fun j hj=>absurd hj (Nat.not_lt_zero j)⟩⟩ ?_ ?_
 rotate_left
 ·rintro⟨_,_,g'⟩ ⟨rfl,k,rfl,rfl,h1,h2,h3⟩
  exact out k h1 h2 h3
 rintro⟨i,k⟩ g' ⟨hi,rfl,hB⟩
 dsimp only at hi hB
 rw[S.z024]
 have hxl:=hx.len
 have hxg:=hx.fr ok Z.fr (by simp)
 by_cases hil:i<l.length
 rotate_left
 ·have hie:i=l.length:=Nat.le_antisymm hi (Nat.le_of_not_lt hil)
  have hd:decide ((i:Int)<(l.length:Int))=false:=decide_eq_false (by omega)
  simp only[S.z8b,hxl,zd,hd]
  obtain⟨rfl,hall⟩ | ⟨q,rfl,hq,hqn,hmin⟩:=hB
  ·obtain⟨j,hj,hjn⟩:=P.some hr
   exact absurd (hall j (hie ▸ hj)) hjn
  ·exact Ev.some (.inr ⟨by simp,rfl,q,rfl,rfl,hie ▸ hq,hqn,fun j hj=>hmin j (hie ▸ hj)⟩)
 have hd:decide ((i:Int)<(l.length:Int))=true:=decide_eq_true (by omega)
 have wi:=hr_k (k:=i) (by omega)
 have i0:=zs (b:=ub) (c:=.ex l.length) hil
 have hu:=z0d9 (P.use i hil)
 have l0:ldB (g'.get ub) i=some (.bool (decide ((i:Int)∈o))):=by rw[Z.use,z08,hu]; rfl
 by_cases hio:(i:Int)∈o
 ·have d1:decide ((i:Int)∈o)=true:=decide_eq_true hio
  simp only[S.z8b,hxl,zd,hd,i0,zk,l0,z0x,d1,Bool.not_true,wi]
  refine Ev.some (.inl ⟨(i+1,k),rfl,rfl,⟨hil,rfl,?_⟩,Nat.sub_lt_sub_left hil (Nat.lt_succ_self i)⟩)
  obtain⟨rfl,hall⟩ | ⟨q,rfl,hq,hqn,hmin⟩:=hB
  ·refine .inl ⟨rfl,fun j hj => ?_⟩
   rcases Nat.lt_succ_iff_lt_or_eq.mp hj with z | z
   ·exact hall j z
   ·rw[z]; exact hio
  ·refine .inr ⟨q,rfl,Nat.lt_succ_of_lt hq,hqn,fun j hj hjn => ?_⟩
   rcases Nat.lt_succ_iff_lt_or_eq.mp hj with z | z
   ·exact hmin j z hjn
   ·rw[z] at hjn; exact absurd hio hjn
 have d1:decide ((i:Int)∈o)=false:=decide_eq_false hio
 obtain⟨rfl,hall⟩ | ⟨q,rfl,hq,hqn,hmin⟩:=hB
 ·have d2:decide ((-1:Int)<0)=true:=rfl
  simp only[S.z8b,hxl,zd,hd,i0,zk,l0,z0x,d1,Bool.not_false,d2,wi]
  refine Ev.some (.inl ⟨(i+1,(i:Int)),rfl,rfl,⟨hil,rfl,.inr ⟨i,rfl,Nat.lt_succ_self i,hio,fun j hj hjn => ?_⟩⟩,Nat.sub_lt_sub_left hil (Nat.lt_succ_self i)⟩)
  rcases Nat.lt_succ_iff_lt_or_eq.mp hj with z | z
  ·exact absurd (hall j z) hjn
  ·rw[z]; exact(zz6 (z07h l)).irrefl _
 ·have d2:decide ((q:Int)<0)=false:=decide_eq_false (by omega)
  obtain⟨x,hxi⟩:∃x,l[i]?=some x:=⟨_,List.getElem?_eq_getElem hil⟩
  obtain⟨y,hyq⟩:∃x,l[q]?=some x:=⟨_,List.getElem?_eq_getElem (by omega)⟩
  obtain⟨eb,e1,e2,_⟩:=hxg.at hxi
  obtain⟨fb,f1,f2,_⟩:=hxg.at hyq
  have lt:zxn x y=ltO l (i:Int) (q:Int):=by unfold ltO; rw[z03j hxi,z03j hyq]
  have ls:=z0jm x y g'
  rw[lt] at ls
  have hS:=zz6 (z07h l)
  have hqi:(q:Int)<(i:Int):=by omega
  cases hlt:ltO l (i:Int) (q:Int) with
  | true =>
   rw[hlt] at ls
   simp only[S.z8b,hxl,zd,hd,i0,zk,z34,l0,z0x,d1,Bool.not_false,d2,e1,e2,f1,f2,z02,ls,wi]
   refine Ev.some (.inl ⟨(i+1,(i:Int)),rfl,rfl,⟨hil,rfl,.inr ⟨i,rfl,Nat.lt_succ_self i,hio,fun j hj hjn => ?_⟩⟩,Nat.sub_lt_sub_left hil (Nat.lt_succ_self i)⟩)
   rcases Nat.lt_succ_iff_lt_or_eq.mp hj with z | z
   ·refine hS.ntrans _ _ _ (hmin j z hjn) ?_
    rw[z09k (z07h l) hqi,hlt]; rfl
   ·rw[z]; exact hS.irrefl _
  | false =>
   rw[hlt] at ls
   simp only[S.z8b,hxl,zd,hd,i0,zk,z34,l0,z0x,d1,Bool.not_false,d2,e1,e2,f1,f2,z02,ls,wi]
   refine Ev.some (.inl ⟨(i+1,(q:Int)),rfl,rfl,⟨hil,rfl,.inr ⟨q,rfl,Nat.lt_succ_of_lt hq,hqn,fun j hj hjn => ?_⟩⟩,Nat.sub_lt_sub_left hil (Nat.lt_succ_self i)⟩)
   rcases Nat.lt_succ_iff_lt_or_eq.mp hj with z | z
   ·exact hmin j z hjn
   ·rw[z,zzl hqi]; exact hlt
theorem z0cq {h:H} (ok:h.ok) {x0:V}{l:List Evt} (hx:RowE h.get x0 l) (hl:l.length<=60) :
  Ev (C 182 [x0] h) fun r=>∃o,OrdL l o/\Grown r.2.get r.1 1 (o.map (.int .i64))/\(∀b∈r.1.blk,h.next<=b)/\Fr [] h r.2:=by
 refine z0e (af:=F.z22) (by kernel_rfl) rfl ?_
 rw[S.z05c]
 have hxl:=hx.len
 have hmk:=z0gr (h:=h) (n:=l.length) (Nat.le_trans hl (by decide))
 simp only[S.z22,hxl,zd,hmk]
 have Z0:RoSt h (h.new (.cells (z8h (List.replicate l.length false)) .rw)) .nilsl [] h.next (List.replicate l.length false):=⟨(Fr.refl ok).new _,Grown.nil _ _,by simp[V.blk],ze _ _,Nat.le_refl _⟩
 refine z0f (α:=V × List Int × List Bool) (fun y=>S.zfv x0 y.1 (.sl h.next 0 l.length (.ex l.length)) (.int .i64 (y.2.1.length:Nat)))
  (fun y g=>RoSt h g y.1 y.2.1 h.next y.2.2/\Pick l y.2.1 y.2.2/\y.2.1.length<=l.length) (fun y _=>l.length-y.2.1.length)
  (fun r=>∃x3 o us,r.1=.exit 0/\r.2.1=S.zkl x3/\RoSt h r.2.2 x3 o h.next us/\OrdL l o) (.nilsl,[],List.replicate l.length false) rfl ⟨Z0,Pick.zero l,Nat.zero_le _⟩ ?_ ?_
 rotate_left
 ·rintro⟨_,_,g⟩ ⟨x3,o,us,rfl,rfl,Z,hO⟩
  show Ev (S.zm8 W (.exit 0) _ _) _
  rw[S.zxx]
  exact Ev.some ⟨o,hO,Z.row,Z.blk,Z.fr⟩
 rintro⟨x3,o,us⟩ g ⟨Z,P,hol⟩
 dsimp only at Z P hol
 rw[S.z01z]
 by_cases hlt:o.length<l.length
 rotate_left
 ·have hd:decide ((o.length:Int)<(l.length:Int))=false:=decide_eq_false (by omega)
  simp only[S.zkz,hxl,zd,hd]
  exact Ev.some (.inr ⟨by simp,x3,o,us,rfl,rfl,Z,P.ord (by omega)⟩)
 have hd:decide ((o.length:Int)<(l.length:Int))=true:=decide_eq_true (by omega)
 have wk:=hr_k (k:=o.length) (by omega)
 simp only[S.zkz,hxl,zd,hd]
 refine z0fe ok hx hl Z P o.length hlt _ _ ?_
 intro k hk hkn hmin
 show Ev (S.zm4 W (.exit 2) _ _) _
 rw[S.zyd]
 have i0:=zs (b:=h.next) (c:=.ex l.length) hk
 have s0:=zr7 Z.use (by simp) (ze4 true) (by rw[z073,P.len]; exact hk)
 rw[z0bl] at s0
 obtain⟨g1,hg1⟩:∃g1,g1=g.put h.next (some (.cells (z8h (us.set k true)) .rw)):=⟨_,rfl⟩
 rw[<-hg1] at s0
 have F1:Fr [h.next] g g1:=by rw[hg1]; exact(Fr.refl Z.fr.ok).put (.inl (by simp)) (Z.fr.ok.lt Z.use) _
 have hub:h.next∉x3.blk:=Z.row.ne Z.use (by simp)
 have row1:Grown g1.get x3 1 (o.map (.int .i64)):=Z.row.fr Z.fr.ok F1 (fun b hb e=>hub (by rw[List.mem_singleton] at e; exact e ▸ hb))
 have use1:g1.get h.next=some (.cells (z8h (us.set k true)) .rw):=by rw[hg1]; exact zq _ _ _
 have ok2:(g1.new (.cells [.int .i64 (k:Int)] .rw)).ok:=F1.ok.new _
 have F2:Fr [] g1 (g1.new (.cells [.int .i64 (k:Int)] .rw)):=(Fr.refl F1.ok).new _
 have row2:=row1.fr F1.ok F2 (by simp)
 obtain⟨x3',g3,ea,F3,row3,blk3,_⟩:=Grown.push ok2 row2 (nb:=g1.next) (new:=[.int .i64 (k:Int)]) (k:=.rw) (bytes:=8) (ze _ _) rfl rfl (by decide) (by decide) (by rw[List.length_map]; omega)
 simp only[S.zq2,i0,zd,s0,ea,wk]
 have Fh1:Fr [] h g1:=Z.fr.trans F1 (fun b hb=>by rw[List.mem_singleton] at hb; exact .inr (hb ▸ Z.nub))
 have Fh2:Fr [] h (g1.new (.cells [.int .i64 (k:Int)] .rw)):=Fh1.trans F2 (by simp)
 have Fh3:Fr [] h g3:=Fh2.trans F3 (fun b hb=>.inr (Z.blk b hb))
 have use2:=F2.get F1.ok use1 (by simp)
 have use3:=F3.get ok2 use2 hub
 refine Ev.some (.inl ⟨(x3',o ++ [(k:Int)],us.set k true),rfl,?_,⟨⟨Fh3,?_,fun b hb=>Nat.le_trans Fh2.le (blk3 b hb),use3,Z.nub⟩,P.step hk hkn hmin,by dsimp only; rw[List.length_append,List.length_singleton]; omega⟩,by dsimp only; rw[List.length_append,List.length_singleton]; omega⟩)
 ·dsimp only
  rw[List.length_append,List.length_singleton]
 ·rw[List.map_append]; exact row3
section
variable {h:H}{k:Cfg}{x0 x1:V}{l:List Evt}{o:List Int}
theorem z0cy (k:Cfg):k.v=.agg [.int .i64 k.s,.int .i64 k.a,.int .i64 k.c,.int .i64 k.hd,.int .i64 k.g,.int .i64 k.st]:=rfl
theorem z077 (k:Cfg) (ok:h.ok):∃g,g=h.new (.cells [.int .i64 k.s,.int .i64 k.a,.int .i64 k.c,.int .i64 k.hd,.int .i64 k.g,.int .i64 k.st] .rw)/\Fr [] h g/\g.get h.next=some (.cells k.cs .rw) :=
 ⟨_,rfl,(Fr.refl ok).new _,ze _ _⟩
theorem zhn {g:H}{q:Nat} (hq:g.get q=some (.cells k.cs .rw)):g.ldN 6 (.ptr q 0)=some k.v:=by rw[zoo hq (show 0+6<=6 from Nat.le_refl _)]; rfl
theorem z0g3 {g:H}{q:Nat} (hq:g.get q=some (.cells k.cs .rw)):g.ld1 (.ptr q 2)=some (.int .i64 k.c):=z26 hq rfl rfl
theorem z0iv (k:Cfg):ckB (some k.v) k.v=true:=by
 rw[z0cy]
 simp[ckB,V.beq,V.beqs]
theorem z0hg (hr:k.R=false) (ok:h.ok):Ev (C 96 [k.v] h) fun z=>z.1=.nilp/\Fr [] h z.2:=by
 refine z0e (af:=F.zbc) (by kernel_rfl) rfl ?_
 rw[z0cy,S.z06x]
 simp only[S.zbc]
 obtain⟨g,hg,F,hq⟩:=z077 k ok
 rw[<-hg]
 have hR:=zvq k.s k.a k.c k.hd k.g k.st g
 rw[show cfgR k.s k.a k.c k.hd k.g k.st=k.R from rfl,hr,show cfgV k.s k.a k.c k.hd k.g k.st=k.v from rfl] at hR
 simp only[zhn hq,zd,z02,hR,z0x,Bool.not_false]
 exact Ev.some ⟨rfl,F⟩
theorem z0h5 (ok:h.ok) (hr:k.R=false) (hx:RowE h.get x0 l) (ho:RowP h x1 o) :
  Ev (C 205 [k.v,x0,x1] h) fun z=>z.1=.int .i64 (0:Nat)/\Fr [] h z.2:=by
 refine z0e (af:=F.z96) (by kernel_rfl) rfl ?_
 rw[z0cy,S.z03z]
 simp only[S.z96]
 obtain⟨g0,hg,F0,hq⟩:=z077 k ok
 rw[<-hg]
 obtain⟨⟨v1,g1⟩,e1,rfl,F1⟩:=z0hg hr F0.ok
 dsimp only at F1
 have hol:=ho.len
 simp only[zhn hq,zd,z02,e1,hol]
 refine z0f (α:=Unit) (fun _=>S.zg0 x0 x1 .nilp x1 (.int .i64 (o.length:Nat)) (.int .i64 0))
  (fun _ g=>Fr [] h g) (fun _ _=>0)
  (fun z=>(z.1=.ret/\z.2.1=S.z40 x1 (.int .i64 (0:Nat)) .nilp/\Fr [] h z.2.2) \/
   (z.1=.exit 0/\z.2.1=S.z40 x1 .dead .nilp/\Fr [] h z.2.2)) () rfl (F0.trans' F1) ?_ ?_
 rotate_left
 ·rintro⟨_,_,g'⟩ (⟨rfl,rfl,F⟩ | ⟨rfl,rfl,F⟩)
  ·show Ev (S.zgk W .ret _ _) _
   rw[S.zwc]
   exact Ev.some ⟨rfl,F⟩
  ·show Ev (S.zgk W (.exit 0) _ _) _
   have hb:eqV .ptr .nilp .nilp=some true:=rfl
   rw[S.zum]
   simp only[S.zq6,hb,zd]
   exact Ev.some ⟨rfl,F⟩
 rintro⟨⟩ g F
 rw[S.z00a]
 by_cases hno:0<o.length
 ·have d:decide ((0:Int)<(o.length:Int))=true:=zll hno
  obtain⟨q,hq⟩:∃q,o[0]?=some q:=⟨_,List.getElem?_eq_getElem hno⟩
  obtain⟨ob,oj,hix,hld,_⟩:=(ho.fr ok F (by simp)).at' 0 q hq
  rw[show((0:Nat):Int)=0 from rfl] at hix
  have hxl:=hx.len
  by_cases hq0:q<0
  ·have d0:decide (q<0)=true:=decide_eq_true hq0
   simp only[S.z5e,d,hix,zd,hld,zm,d0]
   exact Ev.some (.inr ⟨by simp,.inl ⟨rfl,rfl,F⟩⟩)
  have d0:decide (q<0)=false:=decide_eq_false hq0
  by_cases hqn:(l.length:Int)<=q
  ·have d1:decide ((l.length:Int)<=q)=true:=decide_eq_true hqn
   simp only[S.z5e,d,hix,zd,hld,zm,d0,hxl,d1]
   exact Ev.some (.inr ⟨by simp,.inl ⟨rfl,rfl,F⟩⟩)
  obtain⟨i,rfl,hi⟩:∃i:Nat,q=(i:Int)/\i<l.length:=⟨q.toNat,by omega,by omega⟩
  have d1:decide ((l.length:Int)<=(i:Int))=false:=decide_eq_false hqn
  obtain⟨y,hy⟩:∃y,l[i]?=some y:=⟨_,List.getElem?_eq_getElem hi⟩
  obtain⟨eb,e1,e2,e3,e4⟩:=z06s (hx.fr ok F (by simp)) hy
  obtain⟨⟨v,g6⟩,e6,rfl,F6⟩:=z0kf F.ok y.client y.kind y.n y.h y.x y.y y.err y.ah y.yes
  dsimp only at F6
  have e6':C 103 [.nilp,.int .i64 y.client,.agg y.call.cs,.agg y.ans.cs] g=some (.bool false,g6):=e6
  simp only[S.z5e,d,hix,zd,hld,zm,d0,hxl,d1,e1,z1v,Nat.add_zero,e2,e3,e4,z02,e6',z0x,Bool.not_false]
  exact Ev.some (.inr ⟨by simp,.inl ⟨rfl,rfl,F.trans' F6⟩⟩)
 ·have d:decide ((0:Int)<(o.length:Int))=false:=decide_eq_false (by omega)
  simp only[S.z5e,d]
  exact Ev.some (.inr ⟨by simp,.inr ⟨rfl,rfl,F⟩⟩)
theorem z0o0 {g:H}{x:V}{ws:List Int} (G:Grown g.get x 1 (ws.map (.int .i64))):RowP g x ws:=by
 have hr:RowN .i64 g.get x ws:=by
  rcases G with ⟨rfl,h⟩ | ⟨b,n,rfl,h1,h2⟩
  ·exact .inl ⟨rfl,List.map_eq_nil_iff.mp h⟩
  ·rw[List.length_map,Nat.mul_one] at h1
   subst h1
   exact .inr ⟨b,.op 1,.gr 1,rfl,h2⟩
 exact hr.P
def z0n4 (k:Cfg) (l:List Evt):Prop:=k.R=true/\zlu l k.c/\∃o,OrdL l o/\rpN k l (rst0 k) o=l.length
theorem z01l (ok:h.ok) (hx:RowE h.get x0 l) (hu:∀y∈l,U64 y.ah) (hl:l.length<=60) :
  Ev (C 206 [k.v,x0] h) fun z=>∃v,z.1=.bool v/\(v=true<->z0n4 k l)/\Fr [] h z.2:=by
 refine z0e (af:=F.zj4) (by kernel_rfl) rfl ?_
 rw[z0cy,S.z0ci]
 simp only[S.zj4]
 obtain⟨g0,hg,F0,hq⟩:=z077 k ok
 rw[<-hg]
 have hR:C 263 [k.v] g0=some (.bool k.R,g0):=zvq k.s k.a k.c k.hd k.g k.st g0
 have lk:=zhn hq
 have lc:=z0g3 hq
 cases hr:k.R with
 | false =>
  rw[hr] at hR
  simp only[lk,zd,z02,hR]
  exact Ev.some ⟨false,rfl,Iff.intro (fun q=>nomatch q) (fun q=>absurd (hr.symm.trans q.1) (by decide)),F0⟩
 | true =>
  rw[hr] at hR
  have hx0:=hx.fr ok F0 (by simp)
  obtain⟨⟨v1,g1⟩,e1,b1,rfl,hb1,F1⟩:=z0hx F0.ok hx0 hl k.c
  dsimp only at F1
  have F01:=F0.trans' F1
  cases b1 with
  | false =>
   simp only[lk,lc,zd,z02,hR,e1]
   exact Ev.some ⟨false,rfl,Iff.intro (fun q=>nomatch q) (fun q=>absurd (hb1.mpr q.2.1) (by decide)),F01⟩
  | true =>
   have hx1:=hx.fr ok F01 (by simp)
   obtain⟨⟨v2,g2⟩,e2,o,hO,row,_,F2⟩:=z0hs F1.ok hx1 hl
   dsimp only at row F2 
   have hol:=hO.all.len
   obtain⟨⟨v3,g3⟩,e3,rfl,F3⟩:=z01t (o:=o) F2.ok hr (hx.fr ok (F01.trans' F2) (by simp)) hu row.P (by omega)
   dsimp only at F3
   have lk1:=zhn (F1.get F0.ok hq (by simp))
   have lk2:=zhn (F2.get F1.ok (F1.get F0.ok hq (by simp)) (by simp))
   have hxl:=hx.len
   have ck:=z0iv k
   simp only[lk,lc,zd,z02,hR,e1,lk1,hxl,e2,lk2,ck,e3,zm]
   refine Ev.some ⟨_,rfl,?_,(F01.trans' F2).trans' F3⟩
   rw[decide_eq_true_iff]
   constructor
   ·intro q
    exact⟨hr,hb1.mp rfl,o,hO,by omega⟩
   ·rintro⟨_,_,p,hp,hpn⟩
    rw[hO.unique hp,hpn]
end
def z016 (x y:Evt):Prop:=x.client=y.client->¬(x.op=y.op\/x.op<y.op/\¬x.ended<y.begun)
theorem z0f2 {h g:H} (ok:h.ok) {x0:V}{l:List Evt} (hx:RowE h.get x0 l) (hl:l.length<=60) (F:Fr [] h g) {i:Nat}{x:Evt}{q:Nat} (hq:g.get q=some (.cells x.cs .rw)) {clients:Int} (K:AX × List V × H->Option (AX × List V × H)) (R:AX × List V × H->Prop)
  (hbad:∀g',Fr [] h g'->(∃k y,l[k]?=some y/\k≠i/\¬z016 x y)->Ev (K (.ret,S.z3b x0 (.int .i64 clients) (.bool false) (.int .i64 (i:Nat)),g')) R)
  (hgood:∀g',Fr [] h g'->(∀k y,l[k]?=some y->k≠i->z016 x y)->Ev (K (.exit 2,S.z3b x0 (.int .i64 clients) .dead (.int .i64 (i:Nat)),g')) R) :
  Ev ((W.loop (S.zjy W) (S.z4l x0 (.int .i64 clients) (.int .i64 (i:Nat)) (.ptr q 0) (.int .i64 0)) g).bind K) R:=by
 refine z0f (α:=Nat) (fun y=>S.z4l x0 (.int .i64 clients) (.int .i64 (i:Nat)) (.ptr q 0) (.int .i64 (y:Nat)))
  (fun n g'=>n<=l.length/\Fr [] h g'/\g'.get q=some (.cells x.cs .rw)/\∀k y,k<n->l[k]?=some y->k≠i->z016 x y) (fun y _=>l.length-y)
  (fun r=>Fr [] h r.2.2/\((r.1=.ret/\r.2.1=S.z3b x0 (.int .i64 clients) (.bool false) (.int .i64 (i:Nat))/\∃k y,l[k]?=some y/\k≠i/\¬z016 x y)\/(r.1=.exit 2/\r.2.1=S.z3b x0 (.int .i64 clients) .dead (.int .i64 (i:Nat))/\∀k y,l[k]?=some y->k≠i->z016 x y)))
  0 rfl ⟨Nat.zero_le _,F,hq,fun k y hk=>absurd hk (Nat.not_lt_zero k)⟩ ?_ ?_
 rotate_left
 ·rintro⟨_,_,g'⟩ ⟨F',(⟨rfl,rfl,hb⟩ | ⟨rfl,rfl,hb⟩)⟩
  ·exact hbad g' F' hb
  ·exact hgood g' F' hb
 clear hq F
 rintro n g ⟨hn,F,hq,hN⟩
 rw[S.z01e]
 have hxl:=hx.len
 by_cases hnl:n<l.length
 ·have hd:decide ((n:Int)<(l.length:Int))=true:=decide_eq_true (by omega)
  have wn:=hr_k (k:=n) (by omega)
  obtain⟨y,hy⟩:∃y,l[n]?=some y:=⟨_,List.getElem?_eq_getElem hnl⟩
  obtain⟨eb,i1,l2,_⟩:=(hx.fr ok F (by simp)).at hy
  have l2':g.ldN 14 (.ptr eb (n * 14))=some (.agg y.cs):=by rw[z34]; exact l2
  obtain⟨g4,s4,F4,c4,n4⟩:=z06n F.ok (vs:=y.cs) rfl (zz4 y)
  have s4':(g.new (.cells [(.int .i64 0),(.int .i64 0),(.int .i64 0),(.int .i64 0),(.int .i64 0),(.bool false),(.int .i64 0),(.int .i64 0),(.int .u64 0),(.int .u64 0),(.int .u64 0),(.int .i64 0),(.int .u64 0),(.bool false)] .rw)).st 14 (.ptr g.next 0) (.agg y.cs)=some g4:=s4
  have FF:=F.trans F4 (by simp)
  have hq4:=F4.get F.ok hq (by simp)
  have q0:g4.ld1 (.ptr q 0)=some (.int .i64 x.client):=z26 hq4 rfl rfl
  have q1:g4.ld1 (.ptr g.next 0)=some (.int .i64 y.client):=z26 c4 rfl rfl
  have q2:g4.ld1 (.ptr q 1)=some (.int .i64 x.op):=z26 hq4 rfl rfl
  have q3:g4.ld1 (.ptr g.next 1)=some (.int .i64 y.op):=z26 c4 rfl rfl
  have q4:=z002 (n:=14) hq4 rfl
  have q5:=z002 (n:=14) c4 rfl
  have ah:=z0ct x y g4
  have e0:decide ((n:Int)=(i:Int))=decide (n=i):=by rw[decide_eq_decide]; omega
  have nxt:z016 x y\/n=i->∀k z,k<n+1->l[k]?=some z->k≠i->z016 x z:=fun hp k z hk hz hki=>by
   rcases Nat.lt_succ_iff_lt_or_eq.mp hk with r | r
   ·exact hN k z r hz hki
   ·subst r
    rw[hy] at hz; cases hz
    exact hp.resolve_right hki
  by_cases e1:n=i
  ·simp only[S.z4m,hxl,zd,hd,i1,l2',s4',e0,decide_eq_true e1,Bool.not_true,wn]
   exact Ev.some (.inl ⟨n+1,rfl,rfl,⟨hnl,FF,hq4,nxt (.inr e1)⟩,Nat.sub_lt_sub_left hnl (Nat.lt_succ_self n)⟩)
  by_cases e2:x.client=y.client
  rotate_left
  ·simp only[S.z4m,hxl,zd,hd,i1,l2',s4',e0,decide_eq_false e1,Bool.not_false,z1v,Nat.zero_add,q0,q1,zm,decide_eq_false e2,wn]
   exact Ev.some (.inl ⟨n+1,rfl,rfl,⟨hnl,FF,hq4,nxt (.inl fun z=>absurd z e2)⟩,Nat.sub_lt_sub_left hnl (Nat.lt_succ_self n)⟩)
  by_cases e3:x.op=y.op
  ·simp only[S.z4m,hxl,zd,hd,i1,l2',s4',e0,decide_eq_false e1,Bool.not_false,z1v,Nat.zero_add,q0,q1,zm,decide_eq_true e2,q2,q3,decide_eq_true e3]
   exact Ev.some (.inr ⟨by simp,FF,.inl ⟨rfl,rfl,n,y,hy,e1,fun p=>p e2 (.inl e3)⟩⟩)
  by_cases e4:x.op<y.op
  rotate_left
  ·simp only[S.z4m,hxl,zd,hd,i1,l2',s4',e0,decide_eq_false e1,Bool.not_false,z1v,Nat.zero_add,q0,q1,zm,decide_eq_true e2,q2,q3,decide_eq_false e3,decide_eq_false e4,wn]
   exact Ev.some (.inl ⟨n+1,rfl,rfl,⟨hnl,FF,hq4,nxt (.inl fun _ z=>z.elim e3 fun z=>e4 z.1)⟩,Nat.sub_lt_sub_left hnl (Nat.lt_succ_self n)⟩)
  by_cases e5:x.ended<y.begun
  ·rw[decide_eq_true e5] at ah
   simp only[S.z4m,hxl,zd,hd,i1,l2',s4',e0,decide_eq_false e1,Bool.not_false,z1v,Nat.zero_add,q0,q1,zm,decide_eq_true e2,q2,q3,decide_eq_false e3,decide_eq_true e4,q4,q5,z02,ah,z0x,Bool.not_true,wn]
   exact Ev.some (.inl ⟨n+1,rfl,rfl,⟨hnl,FF,hq4,nxt (.inl fun _ z=>z.elim e3 fun z=>z.2 e5)⟩,Nat.sub_lt_sub_left hnl (Nat.lt_succ_self n)⟩)
  ·rw[decide_eq_false e5] at ah
   simp only[S.z4m,hxl,zd,hd,i1,l2',s4',e0,decide_eq_false e1,Bool.not_false,z1v,Nat.zero_add,q0,q1,zm,decide_eq_true e2,q2,q3,decide_eq_false e3,decide_eq_true e4,q4,q5,z02,ah,z0x]
   exact Ev.some (.inr ⟨by simp,FF,.inl ⟨rfl,rfl,n,y,hy,e1,fun p=>p e2 (.inr ⟨e4,e5⟩)⟩⟩)
 ·have hne:n=l.length:=Nat.le_antisymm hn (Nat.le_of_not_lt hnl)
  have hd:decide ((n:Int)<(l.length:Int))=false:=decide_eq_false (by omega)
  simp only[S.z4m,hxl,zd,hd]
  exact Ev.some (.inr ⟨by simp,F,.inr ⟨rfl,rfl,fun k y hy hki=>hN k y (hne ▸ z0a hy) hy hki⟩⟩)
def z0ai (l:List Evt) (clients:Int) (n:Nat):Prop:=∀i x,i<n->l[i]?=some x->x.bd clients/\∀k y,l[k]?=some y->k≠i->z016 x y
theorem z0f4 {l:List Evt}{clients:Int}:z0ai l clients l.length<->zlu l clients :=
  ⟨fun h=>⟨fun i x hx=>(h i x (z0a hx) hx).1,fun i k x y hx hy hki hc=>(h i x (z0a hx) hx).2 k y hy hki hc⟩,
   fun h i x _ hx=>⟨h.1 i x hx,fun k y hy hki hc=>h.2 i k x y hx hy hki hc⟩⟩
theorem z0ap {h:H} (ok:h.ok) {x0:V}{l:List Evt} (hx:RowE h.get x0 l) (hl:l.length<=60) (clients:Int) :
  Ev (C 179 [x0,.int .i64 clients] h) fun r=>∃v,r.1=.bool v/\(v=true<->zlu l clients)/\Fr [] h r.2:=by
 refine z0e (af:=F.z2l) (by kernel_rfl) rfl ?_
 rw[S.z04n]
 simp only[S.z2l]
 refine z0f (α:=Nat) (fun y=>S.zbb x0 (.int .i64 clients) (.int .i64 (y:Nat)))
  (fun n g=>n<=l.length/\Fr [] h g/\z0ai l clients n) (fun n _=>l.length-n)
  (fun r=>Fr [] h r.2.2/\((r.1=.ret/\r.2.1=S.z0y (.bool false)/\¬zlu l clients)\/(r.1=.exit 0/\r.2.1=S.z0y .dead/\zlu l clients)))
  0 rfl ⟨Nat.zero_le _,Fr.refl ok,fun i x hi=>absurd hi (Nat.not_lt_zero i)⟩ ?_ ?_
 rotate_left
 ·rintro⟨_,_,g⟩ ⟨F,(⟨rfl,rfl,hb⟩ | ⟨rfl,rfl,hb⟩)⟩
  ·show Ev (S.zdq W .ret _ g) _
   rw[S.z00c]
   exact Ev.some ⟨false,rfl,⟨fun h=>(absurd h (by decide)),fun h=>absurd h hb⟩,F⟩
  ·show Ev (S.zdq W (.exit 0) _ g) _
   rw[S.zxp]
   exact Ev.some ⟨true,rfl,⟨fun _=>hb,fun _=>rfl⟩,F⟩
 rintro n g ⟨hn,F,hN⟩
 rw[S.z022]
 have hxl:=hx.len
 by_cases hnl:n<l.length
 rotate_left
 ·have hne:n=l.length:=Nat.le_antisymm hn (Nat.le_of_not_lt hnl)
  have hd:decide ((n:Int)<(l.length:Int))=false:=decide_eq_false (by omega)
  simp only[S.zks,hxl,zd,hd]
  exact Ev.some (.inr ⟨by simp,F,.inr ⟨rfl,rfl,z0f4.mp (hne ▸ hN)⟩⟩)
 have hd:decide ((n:Int)<(l.length:Int))=true:=decide_eq_true (by omega)
 have wn:=hr_k (k:=n) (by omega)
 obtain⟨x,hxn⟩:∃y,l[n]?=some y:=⟨_,List.getElem?_eq_getElem hnl⟩
 obtain⟨eb,i1,l2,_⟩:=(hx.fr ok F (by simp)).at hxn
 have l2':g.ldN 14 (.ptr eb (n * 14))=some (.agg x.cs):=by rw[z34]; exact l2
 obtain⟨g4,s4,F4,c4,n4⟩:=z06n F.ok (vs:=x.cs) rfl (zz4 x)
 have s4':(g.new (.cells [(.int .i64 0),(.int .i64 0),(.int .i64 0),(.int .i64 0),(.int .i64 0),(.bool false),(.int .i64 0),(.int .i64 0),(.int .u64 0),(.int .u64 0),(.int .u64 0),(.int .i64 0),(.int .u64 0),(.bool false)] .rw)).st 14 (.ptr g.next 0) (.agg x.cs)=some g4:=s4
 have FF:=F.trans F4 (by simp)
 have q0:g4.ld1 (.ptr g.next 0)=some (.int .i64 x.client):=z26 c4 rfl rfl
 have q2:g4.ld1 (.ptr g.next 2)=some (.int .i64 x.begun):=z26 c4 rfl rfl
 have q3:g4.ld1 (.ptr g.next 3)=some (.int .i64 x.point):=z26 c4 rfl rfl
 have q4:g4.ld1 (.ptr g.next 4)=some (.int .i64 x.ended):=z26 c4 rfl rfl
 have bad:∀ {g':H},Fr [] h g'->¬zlu l clients->Ev (some (AX.ret,S.z0y (.bool false),g')) fun r =>
   (∃a':Nat,r.1=.normal/\r.2.1=S.zbb x0 (.int .i64 clients) (.int .i64 (a':Nat))/\(a'<=l.length/\Fr [] h r.2.2/\z0ai l clients a')/\l.length-a'<l.length-n) \/
   (r.1≠.normal/\(Fr [] h r.2.2/\((r.1=.ret/\r.2.1=S.z0y (.bool false)/\¬zlu l clients)\/(r.1=.exit 0/\r.2.1=S.z0y .dead/\zlu l clients)))) :=
  fun F hb=>Ev.some (.inr ⟨by simp,F,.inl ⟨rfl,rfl,hb⟩⟩)
 simp only[S.zks,hxl,zd,hd,i1,l2',s4',q0,q2,q3,q4,zm]
 by_cases b1:x.client<0
 ·simp only[decide_eq_true b1]
  exact bad FF fun G=>by have:=(G.1 n x hxn).c0; omega
 simp only[decide_eq_false b1]
 by_cases b2:clients<=x.client
 ·simp only[decide_eq_true b2]
  exact bad FF fun G=>by have:=(G.1 n x hxn).c1; omega
 simp only[decide_eq_false b2]
 by_cases b3:x.point<x.begun
 ·simp only[decide_eq_true b3]
  exact bad FF fun G=>by have:=(G.1 n x hxn).p0; omega
 simp only[decide_eq_false b3]
 by_cases b4:x.ended<x.point
 ·simp only[decide_eq_true b4]
  exact bad FF fun G=>by have:=(G.1 n x hxn).p1; omega
 simp only[decide_eq_false b4]
 refine z0f2 ok hx hl FF (i:=n) c4 _ _ ?_ ?_
 ·rintro g' F' ⟨k,y,hy,hki,hb⟩
  show Ev (S.zdn W .ret _ _) _
  rw[S.z00f]
  simp only[S.zqr]
  exact bad F' fun G=>hb fun hc=>G.2 n k x y hxn hy hki hc
 ·intro g' F' hg
  show Ev (S.zdn W (.exit 2) _ _) _
  rw[S.zy0]
  simp only[S.zpz,wn]
  refine Ev.some (.inl ⟨n+1,rfl,rfl,⟨hnl,F',fun i z hi hz => ?_⟩,Nat.sub_lt_sub_left hnl (Nat.lt_succ_self n)⟩)
  rcases Nat.lt_succ_iff_lt_or_eq.mp hi with r | r
  ·exact hN i z r hz
  ·subst r
   rw[hxn] at hz; cases hz
   exact⟨⟨by omega,by omega,by omega,by omega⟩,hg⟩
end Wm
end
noncomputable section
namespace Wm
set_option maxRecDepth 100000 in
theorem z0f8:runF prog meth 2000 200 204 [] .empty=some (.bool true,.empty):=by kernel_rfl
theorem z0mt (h:H):C 204 [] h=some (.bool true,h):=z08t (af:=F.zlm) (by kernel_rfl) rfl (by rw[<-z02a]; exact z0f8) h
end Wm
end
noncomputable section
namespace Wm
attribute [local congr] zi
attribute [local irreducible] wr
def shLinReplays:List (Bool × List CSh):=[(true,[.int .i64,.int .i64,.int .i64,.int .i64,.int .i64,.int .i64]),(false,[.sl 112 [.int .i64,.int .i64,.int .i64,.int .i64,.int .i64,.bool,.int .i64,.int .i64,.int .u64,.int .u64,.int .u64,.int .i64,.int .u64,.bool]]),(false,[.sl 8 [.int .i64]])]
theorem eqB (a b:Bool):eqV .bool (.bool a) (.bool b)=some (a == b):=rfl
theorem lawLinReplays (h:H) (us:List V) (ok:h.ok) (ha:z09t h.get shLinReplays us):Ev (C 44 us h) fun r=>r.1=.bool true:=by
 obtain⟨_,_,rfl,⟨_,rfl,_,_,rfl,⟨s,rfl,_⟩,_,_,rfl,⟨a,rfl,_⟩,_,_,rfl,⟨c,rfl,_⟩,_,_,rfl,⟨hd,rfl,_⟩,_,_,rfl,⟨g,rfl,_⟩,_,_,rfl,⟨st,rfl,_⟩,rfl⟩,_,_,rfl,⟨_,_,hx,hxc,rfl⟩,_,_,rfl,⟨_,_,hy,hyc,rfl⟩,rfl⟩:=ha
 cases hx; cases hy
 rename_i x0 x1
 obtain⟨l,hx,hu,_,_⟩:=z0n7 hxc
 obtain⟨o,ho,_,_,_⟩:=z0mh hyc
 refine z0e (af:=F.z4r) (by kernel_rfl) rfl ?_
 rw[S.zzp]
 simp only[S.z4r]
 obtain⟨g0,hg,F0,hq⟩:=z077 ⟨s,a,c,hd,g,st⟩ ok
 dsimp only at hg
 rw[<-hg]
 have hxl:=hx.len
 have hol:=ho.len
 have hR:C 85 [(⟨s,a,c,hd,g,st⟩:Cfg).v] g0=some (.bool (⟨s,a,c,hd,g,st⟩:Cfg).R,g0):=z09f s a c hd g st g0
 have lc:g0.ld1 (.ptr h.next 2)=some (.int .i64 (⟨s,a,c,hd,g,st⟩:Cfg).c):=z0g3 hq
 generalize (⟨s,a,c,hd,g,st⟩:Cfg)=k at hq hR lc
 have aw:=z0mt
 by_cases h40:40<l.length
 ·have d:decide ((40:Int)<(l.length:Int))=true:=decide_eq_true (by omega)
  simp only[hxl,zd,d,z02,aw]
  exact Ev.some rfl
 have d:decide ((40:Int)<(l.length:Int))=false:=decide_eq_false (by omega)
 by_cases o40:40<o.length
 ·have d1:decide ((40:Int)<(o.length:Int))=true:=decide_eq_true (by omega)
  simp only[hxl,hol,zd,d,d1,z02,aw]
  exact Ev.some rfl
 have d1:decide ((40:Int)<(o.length:Int))=false:=decide_eq_false (by omega)
 have hl:l.length<=60:=by omega
 have lk0:=zhn hq
 have ck:=z0iv k
 cases hr:k.R with
 | false =>
  rw[hr] at hR
  obtain⟨⟨v1,g1⟩,e1,rfl,F1⟩:=z0h5 F0.ok hr (hx.fr ok F0 (by simp)) (ho.fr ok F0 (by simp)).P
  dsimp only at F1
  have F01:=F0.trans' F1
  have q1:=F1.get F0.ok hq (by simp)
  obtain⟨⟨v2,g2⟩,e2,b2,rfl,hb2,F2⟩:=z01l (k:=k) F1.ok (hx.fr ok F01 (by simp)) hu hl
  have:b2=false:=by
   cases b2 with
   | false=>rfl
   | true=>exact absurd ((hb2.mp rfl).1) (by rw[hr]; decide)
  subst this
  have z:decide (((0:Nat):Int)=0)=true:=rfl
  simp only[hxl,hol,zd,d,d1,z02,lk0,hR,z0x,Bool.not_false,e1,zm,z,zhn q1,e2,aw]
  exact Ev.some rfl
 | true =>
  rw[hr] at hR
  obtain⟨⟨v1,g1⟩,e1,b1,rfl,hb1,F1⟩:=z0ap F0.ok (hx.fr ok F0 (by simp)) hl k.c
  dsimp only at F1
  have F01:=F0.trans' F1
  have q1:=F1.get F0.ok hq (by simp)
  cases b1 with
  | false =>
   obtain⟨⟨v2,g2⟩,e2,rfl,F2⟩:=z01t (k:=k) (o:=o) F1.ok hr (hx.fr ok F01 (by simp)) hu (ho.fr ok F01 (by simp)).P (by omega)
   dsimp only at F2
   have F02:=F01.trans' F2
   have q2:=F2.get F1.ok q1 (by simp)
   obtain⟨⟨v3,g3⟩,e3,rfl,F3⟩:=zz9 (k:=k) (o:=o) F2.ok hr (hx.fr ok F02 (by simp)) hu (ho.fr ok F02 (by simp)).P (by omega)
   dsimp only at F3
   have F03:=F02.trans' F3
   have q3:=F3.get F2.ok q2 (by simp)
   obtain⟨⟨v4,g4⟩,e4,b4,rfl,hb4,F4⟩:=z01l (k:=k) F3.ok (hx.fr ok F03 (by simp)) hu hl
   have:b4=false:=by
    cases b4 with
    | false=>rfl
    | true=>exact absurd (hb1.mpr (hb4.mp rfl).2.1) (by decide)
   subst this
   have z:decide ((rpN k l (rst0 k) o:Int)=(rpN k l (rst0 k) o:Int))=true:=decide_eq_true rfl
   have zb:(false == false)=true:=rfl
   simp only[hxl,hol,zd,d,d1,z02,lk0,hR,lc,z0x,Bool.not_true,e1,zm,zhn q1,zhn q2,zhn q3,e2,ck,e3,e4,eqB,zb,aw]
   exact Ev.some rfl
  | true =>
   obtain⟨⟨v2,g2⟩,e2,p,hp,row,_,F2⟩:=z0cq F1.ok (hx.fr ok F01 (by simp)) hl
   dsimp only at row F2
   have F02:=F01.trans' F2
   have q2:=F2.get F1.ok q1 (by simp)
   have hpl:=hp.all.len
   have rowP:RowP g2 v2 p:=z0o0 row
   obtain⟨⟨v3,g3⟩,e3,rfl,F3⟩:=zz9 (k:=k) (o:=p) F2.ok hr (hx.fr ok F02 (by simp)) hu rowP (by omega)
   dsimp only at F3
   have F03:=F02.trans' F3
   have q3:=F3.get F2.ok q2 (by simp)
   obtain⟨⟨v4,g4⟩,e4,rfl,F4⟩:=z01t (k:=k) (o:=o) F3.ok hr (hx.fr ok F03 (by simp)) hu (ho.fr ok F03 (by simp)).P (by omega)
   dsimp only at F4
   have F04:=F03.trans' F4
   have q4:=F4.get F3.ok q3 (by simp)
   obtain⟨⟨v5,g5⟩,e5,rfl,F5⟩:=zz9 (k:=k) (o:=o) F4.ok hr (hx.fr ok F04 (by simp)) hu (ho.fr ok F04 (by simp)).P (by omega)
   dsimp only at F5
   have F05:=F04.trans' F5
   have q5:=F5.get F4.ok q4 (by simp)
   obtain⟨⟨v6,g6⟩,e6,b6,rfl,hb6,F6⟩:=z01l (k:=k) F5.ok (hx.fr ok F05 (by simp)) hu hl
   have hb:b6=decide ((rpN k l (rst0 k) p:Int)=(l.length:Int)):=by
    have:(b6=true)<->((rpN k l (rst0 k) p:Int)=(l.length:Int)):=by
     rw[hb6]
     constructor
     ·rintro⟨_,_,o',ho',hn⟩
      rw[hp.unique ho',hn]
     ·intro q
      exact⟨hr,hb1.mp rfl,p,hp,by omega⟩
    cases b6 with
    | true=>exact(decide_eq_true (this.mp rfl)).symm
    | false=>exact(decide_eq_false (fun q=>absurd (this.mpr q) (by decide))).symm
   have z:decide ((rpN k l (rst0 k) o:Int)=(rpN k l (rst0 k) o:Int))=true:=decide_eq_true rfl
   have zb:(b6 == b6)=true:=BEq.rfl
   simp only[hxl,hol,zd,d,d1,z02,lk0,hR,lc,z0x,Bool.not_true,e1,zm,zhn q1,e2,zhn q2,ck,e3,zhn q3,e4,zhn q4,e5,zhn q5,e6,<-hb,eqB,zb,aw]
   exact Ev.some rfl
end Wm
end
