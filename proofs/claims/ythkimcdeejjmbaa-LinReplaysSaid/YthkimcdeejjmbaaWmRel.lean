/- How my machine's values and heap stand to the model's. -/
import Derived.Test.YthkimcdeejjmbaaWmComp
import Derived.Calls
import Derived.Tactics
import Derived.Laws.World
import Derived.Laws.Cells
import Derived.Laws.CopyRow
set_option linter.all false
namespace Wm
open Go (Value Addr World Obj Program IntKind)
theorem T.get_leaf {α:Type} (n:Nat):(T.leaf:T α).get n=none:=by simp[T.get]
theorem T.get_put' {α:Type} (o:Option α):∀(f:Nat) (t:T α) (n m:Nat),n<f->(T.put' o f t n).get m=if m=n then o else t.get m:=by
 intro f
 induction f with
 | zero=>intro t n m h; omega
 | succ f ih =>
  intro t n m h
  have key:∀(l:T α) (v:Option α) (r:T α),(match Nat.beq n 0 with
    | true=>T.node l o r
    | false=>match Nat.beq (n % 2) 1 with
     | true=>.node (T.put' o f l (n / 2)) v r
     | false=>.node l v (T.put' o f r (n / 2-1))).get m=if m=n then o else (T.node l v r).get m:=by
   intro l v r
   cases hn:Nat.beq n 0 with
   | true =>
    have:n=0:=Nat.eq_of_beq_eq_true hn
    subst this
    simp only[T.get]
    cases hm:Nat.beq m 0 with
    | true=>have:m=0:=Nat.eq_of_beq_eq_true hm; simp[this]
    | false=>have:m≠0:=Nat.ne_of_beq_eq_false hm; simp[this]
   | false =>
    have hn0:n≠0:=Nat.ne_of_beq_eq_false hn
    cases h2:Nat.beq (n % 2) 1 with
    | true =>
     have hodd:n % 2=1:=Nat.eq_of_beq_eq_true h2
     simp only[T.get]
     cases hm:Nat.beq m 0 with
     | true=>have:m=0:=Nat.eq_of_beq_eq_true hm; subst this; rw[if_neg (by omega)]
     | false =>
      have hm0:m≠0:=Nat.ne_of_beq_eq_false hm
      cases h3:Nat.beq (m % 2) 1 with
      | true =>
       have:m % 2=1:=Nat.eq_of_beq_eq_true h3
       simp only[ih l (n / 2) (m / 2) (by omega)]
       by_cases e:m=n
       ·subst e; simp
       ·rw[if_neg (by omega),if_neg e]
      | false =>
       have:m % 2≠1:=Nat.ne_of_beq_eq_false h3
       rw[if_neg (by intro e; subst e; omega)]
    | false =>
     have hev:n % 2≠1:=Nat.ne_of_beq_eq_false h2
     simp only[T.get]
     cases hm:Nat.beq m 0 with
     | true=>have:m=0:=Nat.eq_of_beq_eq_true hm; subst this; rw[if_neg (by omega)]
     | false =>
      have hm0:m≠0:=Nat.ne_of_beq_eq_false hm
      cases h3:Nat.beq (m % 2) 1 with
      | true =>
       have:m % 2=1:=Nat.eq_of_beq_eq_true h3
       rw[if_neg (by intro e; subst e; omega)]
      | false =>
       have:m % 2≠1:=Nat.ne_of_beq_eq_false h3
       simp only[ih r (n / 2-1) (m / 2-1) (by omega)]
       by_cases e:m=n
       ·subst e; simp
       ·rw[if_neg (by omega),if_neg e]
  cases t with
  | node l v r=>exact key l v r
  | leaf =>
   have h0:=key .leaf none .leaf
   have hl:(T.leaf:T α).get m=(T.node .leaf none .leaf).get m:=by
    simp only[T.get]; cases Nat.beq m 0 <;> cases Nat.beq (m % 2) 1 <;> rfl
   rw[hl,<-h0]
   rfl
theorem T.get_put {α:Type} (t:T α) (n:Nat) (o:Option α) (m:Nat):(t.put n o).get m=if m=n then o else t.get m :=
 T.get_put' o (n+1) t n m (by omega)
theorem H.get_put (h:H) (b:Nat) (x:Option Blk) (c:Nat):(h.put b x).get c=if c=b then x else h.get c:=T.get_put _ _ _ _
theorem H.get_new (h:H) (x:Blk) (c:Nat):(h.new x).get c=if c=h.next then some x else h.get c:=T.get_put _ _ _ _
@[simp] theorem H.next_put (h:H) (b:Nat) (x:Option Blk):(h.put b x).next=h.next:=rfl
@[simp] theorem H.next_new (h:H) (x:Blk):(h.new x).next=h.next+1:=rfl
structure Loc where
 blk:Nat
 sh:Nat
 size:Nat
 esz:Nat
section
variable (tab:Tab) (β:Nat->Option Loc)
mutual
def RV:V->Value->Prop
 | .bool b,v=>v=.bool b
 | .int k n,v=>v=.int k n
 | .str s,v=>v=.string s
 | .ptr b o,v=>∃l,β b=some l/\v=.pointer (some ⟨l.blk,o+l.sh,none⟩)
 | .nilp,v=>v=.pointer none
 | .sl b o n (.ex c),v=>∃l,β b=some l/\v=.slice (some ⟨l.blk,o+l.sh,none⟩) n c/\n<=c
 | .sl b o n (.op z),v=>∃l c A,β b=some l/\v=.slice (some A) n c/\n<=c/\(0<c->A=⟨l.blk,A.off,none⟩)/\(0<n->A.off=o+l.sh)/\A.off+c * z<=l.size/\l.esz=z
 | .nilsl,v=>v=.slice none 0 0
 | .map r,v=>∃l,β r=some l/\v=.map (some l.blk)
 | .nilmap,v=>v=.map none
 | .fn f caps,v=>∃k cs,v=.func (.func k) #[] cs/\zbg tab.fn k=some f/\RVs caps cs.toList
 | .nilfn,v=>v=.nilFunc
 | .ifc t x,v=>∃T y,v=.iface T y/\zbg tab.ty T=some t/\RV x y
 | .nilifc,v=>v=.nilIface
 | .agg cs,v=>∃a,v=.agg a/\RVs cs a.toList
 | .tup vs,v=>∃a,v=.tuple a/\RVs vs a.toList
 | .dead,_=>True
def RVs:List V->List Value->Prop
 | [],l=>l=[]
 | x :: xs,l=>∃y ys,l=y :: ys/\RV x y/\RVs xs ys
end
end
def Ext (β β':Nat->Option Loc):Prop:=∀b l,β b=some l->β' b=some l
theorem Ext.refl (β:Nat->Option Loc):Ext β β:=fun _ _ h=>h
theorem Ext.trans {a b c:Nat->Option Loc} (h:Ext a b) (k:Ext b c):Ext a c:=fun x l hx=>k x l (h x l hx)
mutual
theorem RV.mono {tab:Tab}{β β':Nat->Option Loc} (h:Ext β β'):∀(v:V) (c:Value),RV tab β v c->RV tab β' v c
 | .bool _,_,r=>r
 | .int _ _,_,r=>r
 | .str _,_,r=>r
 | .ptr _ _,_,r=>let ⟨l,a,e⟩:=r; ⟨l,h _ _ a,e⟩
 | .nilp,_,r=>r
 | .sl _ _ _ (.ex _),_,r=>let ⟨l,a,e⟩:=r; ⟨l,h _ _ a,e⟩
 | .sl _ _ _ (.op _),_,r=>let ⟨l,c,O,a,e⟩:=r; ⟨l,c,O,h _ _ a,e⟩
 | .nilsl,_,r=>r
 | .map _,_,r=>let ⟨l,a,e⟩:=r; ⟨l,h _ _ a,e⟩
 | .nilmap,_,r=>r
 | .fn _ caps,_,r=>let ⟨k,cs,e,a,m⟩:=r; ⟨k,cs,e,a,RVs.mono h caps cs.toList m⟩
 | .nilfn,_,r=>r
 | .ifc _ x,_,r=>let ⟨T,y,e,a,m⟩:=r; ⟨T,y,e,a,RV.mono h x y m⟩
 | .nilifc,_,r=>r
 | .agg cs,_,r=>let ⟨a,e,m⟩:=r; ⟨a,e,RVs.mono h cs a.toList m⟩
 | .tup vs,_,r=>let ⟨a,e,m⟩:=r; ⟨a,e,RVs.mono h vs a.toList m⟩
 | .dead,_,_=>trivial
theorem RVs.mono {tab:Tab}{β β':Nat->Option Loc} (h:Ext β β'):∀(vs:List V) (cs:List Value),RVs tab β vs cs->RVs tab β' vs cs
 | [],_,r=>r
 | x :: xs,_,r=>let ⟨y,ys,e,a,b⟩:=r; ⟨y,ys,e,RV.mono h x y a,RVs.mono h xs ys b⟩
end
section
variable {tab:Tab}{β:Nat->Option Loc}
theorem RVs.cons {x:V}{y:Value}{xs:List V}{ys:List Value} (h:RV tab β x y) (k:RVs tab β xs ys):RVs tab β (x :: xs) (y :: ys):=⟨y,ys,rfl,h,k⟩
theorem RVs.cons_iff {x:V}{y:Value}{xs:List V}{ys:List Value}:RVs tab β (x :: xs) (y :: ys)<->RV tab β x y/\RVs tab β xs ys:=by
 constructor
 ·rintro⟨a,b,e,h,k⟩; cases e; exact⟨h,k⟩
 ·rintro⟨h,k⟩; exact⟨y,ys,rfl,h,k⟩
theorem RVs.length:∀ {xs:List V}{ys:List Value},RVs tab β xs ys->xs.length=ys.length
 | [],_,h=>by cases h; rfl
 | _ :: xs,_,⟨y,ys,e,_,k⟩=>by subst e; simp[RVs.length k]
theorem RVs.get:∀ {xs:List V}{ys:List Value},RVs tab β xs ys->∀(i:Nat) (v:V),xs[i]?=some v->∃c,ys[i]?=some c/\RV tab β v c
 | [],_,_,i,v,hv=>by simp at hv
 | x :: xs,_,⟨y,ys,e,hx,k⟩,i,v,hv=>by
  subst e
  cases i with
  | zero=>simp at hv; subst hv; exact⟨y,rfl,hx⟩
  | succ i=>simp at hv ⊢; exact RVs.get k i v hv
theorem RVs.of_get:∀ {xs:List V}{ys:List Value},xs.length=ys.length->(∀(i:Nat) v c,xs[i]?=some v->ys[i]?=some c->RV tab β v c)->RVs tab β xs ys
 | [],[],_,_=>rfl
 | x :: xs,y :: ys,hl,h=>RVs.cons (h 0 x y rfl rfl) (RVs.of_get (by simpa using hl) fun i v c a b=>h (i+1) v c (by simpa using a) (by simpa using b))
 | [],_ :: _,hl,_=>by simp at hl
 | _ :: _,[],hl,_=>by simp at hl
theorem RVs.append {a b:List V}{c d:List Value} (h:RVs tab β a c) (k:RVs tab β b d):RVs tab β (a ++ b) (c ++ d):=by
 induction a generalizing c with
 | nil=>cases h; simpa using k
 | cons x a ih=>obtain⟨y,ys,e,hx,hr⟩:=h; subst e; exact RVs.cons hx (ih hr)
theorem RVs.take {a:List V}{c:List Value} (h:RVs tab β a c) (n:Nat):RVs tab β (a.take n) (c.take n):=by
 refine RVs.of_get (by simp[RVs.length h]) fun i v x hv hx => ?_
 rw[List.getElem?_take] at hv hx
 split at hv
 ·rename_i hi; rw[if_pos hi] at hx
  obtain⟨y,hy,hr⟩:=RVs.get h i v hv
  rw[hx] at hy; cases hy; exact hr
 ·cases hv
theorem RVs.drop {a:List V}{c:List Value} (h:RVs tab β a c) (n:Nat):RVs tab β (a.drop n) (c.drop n):=by
 refine RVs.of_get (by simp[RVs.length h]) fun i v x hv hx => ?_
 rw[List.getElem?_drop] at hv hx
 obtain⟨y,hy,hr⟩:=RVs.get h _ v hv
 rw[hx] at hy; cases hy; exact hr
theorem RVs.set {a:List V}{c:List Value} (h:RVs tab β a c) (n:Nat) {v:V}{x:Value} (hv:RV tab β v x):RVs tab β (a.set n v) (c.set n x):=by
 refine RVs.of_get (by simp[RVs.length h]) fun i u y hu hy => ?_
 rw[List.getElem?_set] at hu hy
 by_cases hi:n=i
 ·rw[if_pos hi] at hu hy
  rw[<-RVs.length h] at hy
  by_cases hl:n<a.length
  ·rw[if_pos (by omega)] at hu hy; cases hu; cases hy; exact hv
  ·rw[if_neg (by omega)] at hu; cases hu
 ·rw[if_neg hi] at hu hy
  obtain⟨y',hy',hr⟩:=RVs.get h i u hu
  rw[hy] at hy'; cases hy'; exact hr
theorem RVs.getD {a:List V}{c:List Value} (h:RVs tab β a c) (n:Nat):RV tab β (a.getD n .undef) (c.getD n Go.undef):=by
 by_cases hn:n<a.length
 ·obtain⟨y,hy,hr⟩:=RVs.get h n a[n] (by simp[hn])
  have h1:a.getD n .undef=a[n]:=by simp[List.getD,hn]
  have h2:c.getD n Go.undef=y:=by simp[List.getD,hy]
  rw[h1,h2]; exact hr
 ·have hl:=RVs.length h
  have h1:a.getD n .undef=.undef:=by simp[List.getD,List.getElem?_eq_none (Nat.le_of_not_lt hn)]
  have h2:c.getD n Go.undef=Go.undef:=by simp[List.getD,List.getElem?_eq_none (show c.length<=n by omega)]
  rw[h1,h2]
  exact⟨#[],rfl,rfl⟩
theorem RV.undef:RV tab β .undef Go.undef:=⟨#[],rfl,rfl⟩
theorem RV.cells {v:V}{c:Value} (h:RV tab β v c) (hv:∃cs,boxc v=some cs):RVs tab β v.cells c.cells.toList:=by
 obtain⟨cs,hcs⟩:=hv
 cases v with
 | agg l=>obtain⟨a,rfl,m⟩:=h; exact m
 | dead=>simp[boxc] at hcs
 | tup l=>simp[boxc] at hcs
 | bool b=>cases h; exact RVs.cons rfl rfl
 | int k n=>cases h; exact RVs.cons rfl rfl
 | str s=>cases h; exact RVs.cons rfl rfl
 | nilp=>cases h; exact RVs.cons rfl rfl
 | nilsl=>cases h; exact RVs.cons rfl rfl
 | nilmap=>cases h; exact RVs.cons rfl rfl
 | nilfn=>cases h; exact RVs.cons rfl rfl
 | nilifc=>cases h; exact RVs.cons rfl rfl
 | ptr b o=>obtain⟨l,a,rfl⟩:=h; exact RVs.cons ⟨l,a,rfl⟩ rfl
 | sl b o n cap =>
  cases cap with
  | ex cp=>obtain⟨l,a,rfl,e⟩:=h; exact RVs.cons ⟨l,a,rfl,e⟩ rfl
  | op z=>obtain⟨l,cc,O,a,rfl,e⟩:=h; exact RVs.cons ⟨l,cc,O,a,rfl,e⟩ rfl
 | map r=>obtain⟨l,a,rfl⟩:=h; exact RVs.cons ⟨l,a,rfl⟩ rfl
 | fn f caps=>obtain⟨k,cs,rfl,e,m⟩:=h; exact RVs.cons ⟨k,cs,rfl,e,m⟩ rfl
 | ifc t x=>obtain⟨T,y,rfl,e,m⟩:=h; exact RVs.cons ⟨T,y,rfl,e,m⟩ rfl
theorem RV.one {v:V}{c:Value} (h:RV tab β v c) (hv:v.one=true):c.oneCell'=true:=by
 cases v with
 | agg l=>simp[V.one] at hv
 | dead=>simp[V.one] at hv
 | tup l=>simp[V.one] at hv
 | bool b=>cases h; rfl
 | int k n=>cases h; rfl
 | str s=>cases h; rfl
 | nilp=>cases h; rfl
 | nilsl=>cases h; rfl
 | nilmap=>cases h; rfl
 | nilfn=>cases h; rfl
 | nilifc=>cases h; rfl
 | ptr b o=>obtain⟨l,a,rfl⟩:=h; rfl
 | sl b o n cap =>
  cases cap with
  | ex cp=>obtain⟨l,a,rfl,e⟩:=h; rfl
  | op z=>obtain⟨l,cc,O,a,rfl,e⟩:=h; rfl
 | map r=>obtain⟨l,a,rfl⟩:=h; rfl
 | fn f caps=>obtain⟨k,cs,rfl,e,m⟩:=h; rfl
 | ifc t x=>obtain⟨T,y,rfl,e,m⟩:=h; rfl
end
def Blk.wr:Blk->Bool
 | .cells _ .ro=>false
 | _=>true
def BlkR (tab:Tab) (β:Nat->Option Loc) (w:World) (l:Loc):Blk->Prop
 | .cells cs k=>l.blk<w.heap.size/\(∀i v,cs[i]?=some v->∃c,w.cell? ⟨l.blk,i+l.sh,none⟩=some c/\RV tab β v c) /\
   (k≠.ro->∃c e,w.heap[l.blk]?=some (.cells c e (0,0))/\c.size=l.size/\cs.length+l.sh<=c.size) /\
   (∀e,k=.gr e->l.esz=e)
 | .map es=>∃ents clock,w.heap[l.blk]?=some (.map ents clock) /\
   RVs tab β (es.map (·.1)) (ents.toList.map (·.key))/\RVs tab β (es.map (·.2)) (ents.toList.map (·.val))
structure Rel (tab:Tab) (β:Nat->Option Loc) (g:Nat->Option Blk) (w:World):Prop where
 blk:∀b x,g b=some x->∃l,β b=some l/\BlkR tab β w l x
 sep:∀b x b' x' l l',g b=some x->g b'=some x'->b≠b'->β b=some l->β b'=some l'->x.wr=true->l.blk≠l'.blk
theorem Rel.anti {tab:Tab}{β:Nat->Option Loc}{g g':Nat->Option Blk}{w:World} (h:Rel tab β g w) (hg:∀b x,g' b=some x->g b=some x):Rel tab β g' w :=
 ⟨fun b x e=>h.blk b x (hg b x e),fun b x b' x' l l' e e'=>h.sep b x b' x' l l' (hg _ _ e) (hg _ _ e')⟩
structure Tr (β β':Nat->Option Loc) (h h':H) (w w':World):Prop where
 ext:Ext β β'
 dom:∀b,β' b≠none->β b≠none\/(h.next<=b/\b<h'.next)
 next:h.next<=h'.next
 os:w'.os=w.os
 tape:w'.tape=w.tape
 output:w'.output=w.output
 size:w.heap.size<=w'.heap.size
 frame:∀B,B<w.heap.size->(∀b x l,h.get b=some x->x.wr=true->β b=some l->l.blk≠B)->w'.heap[B]?=w.heap[B]?
 img:∀b x l,h'.get b=some x->β' b=some l->w.heap.size<=l.blk\/∃b0 x0 l0,h.get b0=some x0/\β b0=some l0/\l0.blk=l.blk/\(x.wr=true->x0.wr=true)
theorem Tr.refl {β:Nat->Option Loc} (h:H) (w:World):Tr β β h h w w :=
 ⟨Ext.refl _,fun _ hb=>.inl hb,Nat.le_refl _,rfl,rfl,rfl,Nat.le_refl _,fun _ _ _=>rfl,fun b x l hb hl=>.inr ⟨b,x,l,hb,hl,rfl,id⟩⟩
theorem Tr.trans {β β1 β2:Nat->Option Loc}{h h1 h2:H}{w w1 w2:World} (a:Tr β β1 h h1 w w1) (c:Tr β1 β2 h1 h2 w1 w2):Tr β β2 h h2 w w2 where
 ext:=a.ext.trans c.ext
 dom b hb:=by
  have hn:=a.next; have hm:=c.next
  rcases c.dom b hb with h0 | ⟨h0,h1'⟩
  ·rcases a.dom b h0 with h2 | ⟨h2,h3⟩
   ·exact .inl h2
   ·exact .inr ⟨h2,by omega⟩
  ·exact .inr ⟨by omega,h1'⟩
 next:=Nat.le_trans a.next c.next
 os:=c.os.trans a.os
 tape:=c.tape.trans a.tape
 output:=c.output.trans a.output
 size:=Nat.le_trans a.size c.size
 frame B hB hn:=by
  rw[c.frame B (Nat.lt_of_lt_of_le hB a.size) ?_,a.frame B hB hn]
  intro b x l hb hx hl e
  rcases a.img b x l hb hl with h0 | ⟨b0,x0,l0,g0,e0,e1,e2⟩
  ·omega
  ·exact hn b0 x0 l0 g0 (e2 hx) e0 (e1.trans e)
 img b x l hb hl:=by
  rcases c.img b x l hb hl with h0 | ⟨b1,x1,l1,g1,e1,e2,e3⟩
  ·exact .inl (Nat.le_trans a.size h0)
  ·rcases a.img b1 x1 l1 g1 e1 with h0 | ⟨b0,x0,l0,g0,f0,f1,f2⟩
   ·exact .inl (by omega)
   ·exact .inr ⟨b0,x0,l0,g0,f0,f1.trans e2,fun hx=>f2 (e3 hx)⟩
def zi6 (β:Nat->Option Loc) (h h':H):Prop:=∀b,h.next<=b->b<h'.next->β b=none
end Wm
