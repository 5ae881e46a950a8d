/- Each operation of my machine, as the model carries it out: what is common, and numbers. -/
import Derived.Test.YthkimcdeejjmbaaWmRel
import Derived.Laws.Entries
import Derived.Laws.Tables
set_option linter.all false
namespace Wm
open Go (Value Addr World Obj Program IntKind TypeId Oper Operand Act Exit Sem)
theorem zfc {α:Type}:∀ {l:List (Option α)}{r:List α},z6d l=some r->l=r.map some
 | [],r,h=>by simp[z6d] at h; subst h; rfl
 | some a :: l,r,h=>by
  simp only[z6d] at h
  split at h
  ·rename_i l' hl; cases h; simp[zfc hl]
  ·cases h
 | none :: l,r,h=>by simp[z6d] at h
theorem z0ar {tab:Tab}{β:Nat->Option Loc} (f:Value->Option V) (hf:∀v u,f v=some u->RV tab β u v):∀(l:List Value) (r:List V),l.map f=r.map some->RVs tab β r l
 | [],r,h=>by cases r with
  | nil=>rfl
  | cons a r=>simp at h
 | v :: l,r,h=>by
  cases r with
  | nil=>simp at h
  | cons a r=>simp only[List.map_cons,List.cons.injEq] at h; exact RVs.cons (hf v a h.1) (z0ar f hf l r h.2)
theorem z0m3 {tab:Tab}{β:Nat->Option Loc}:∀(n:Nat) (v:Value) (u:V),cvN n v=some u->RV tab β u v:=by
 intro n
 induction n with
 | zero=>intro v u h; simp[cvN] at h
 | succ n ih =>
  intro v u h
  unfold cvN at h
  split at h
  ·cases h; rfl
  ·cases h; rfl
  ·cases h; rfl
  ·cases h; rfl
  ·cases h; rfl
  ·cases h; rfl
  ·cases h; rfl
  ·cases h; rfl
  ·rename_i cs
   split at h
   ·rename_i l hl; cases h; exact⟨cs,rfl,z0ar _ ih _ _ (zfc hl)⟩
   ·cases h
  ·rename_i cs
   split at h
   ·rename_i l hl; cases h; exact⟨cs,rfl,z0ar _ ih _ _ (zfc hl)⟩
   ·cases h
  ·cases h
theorem z0dd {tab:Tab}{β:Nat->Option Loc}{v:Value}{u:V} (h:cv v=some u):RV tab β u v:=z0m3 5 v u h
theorem z01f (a:Array Value) (n:Nat) (d:Value):a.getD n d=a.toList.getD n d:=by
 simp[Array.getD_eq_getD_getElem?,List.getD_eq_getElem?_getD]
def EnvR (tab:Tab) (β:Nat->Option Loc) (env:List V) (a:Act):Prop:=RVs tab β env a.tmps.toList
theorem zu {tab:Tab}{β:Nat->Option Loc}{env:List V}{a:Act} (hE:EnvR tab β env a) {x:Operand}{y:Opd} (h:cOpd tab x=some y):RV tab β (opd env y) (a.eval x):=by
 unfold cOpd at h
 split at h
 ·cases h
  simp only[opd,Act.eval,z01f]
  exact RVs.getD hE _
 ·rename_i v
  obtain⟨u,hu,rfl⟩:=Option.map_eq_some_iff.mp h
  exact z0dd hu
 ·rename_i f
  obtain⟨u,hu,rfl⟩:=Option.map_eq_some_iff.mp h
  exact⟨f,#[],rfl,hu,rfl⟩
 ·cases h
theorem zzf {tab:Tab}{β:Nat->Option Loc}{env:List V}{a:Act} (hE:EnvR tab β env a):∀ {xs:List Operand}{ys:List Opd},zo1 tab xs=some ys->RVs tab β (ys.map (opd env)) (xs.map a.eval):=by
 intro xs
 induction xs with
 | nil=>intro ys h; simp[zo1,z6d] at h; subst h; rfl
 | cons x xs ih =>
  intro ys h
  have h':=zfc h
  cases ys with
  | nil=>simp at h'
  | cons y ys =>
   simp only[List.map_cons,List.cons.injEq] at h'
   refine RVs.cons (zu hE h'.1) (ih ?_)
   have:∀(l:List (Option Opd)) (r:List Opd),l=r.map some->z6d l=some r:=by
    intro l r e; subst e
    induction r with
    | nil=>rfl
    | cons a r ihr=>simp[z6d,ihr]
   exact this _ _ h'.2
theorem EnvR.mono {tab:Tab}{β β':Nat->Option Loc} (h:Ext β β') {env:List V}{a:Act} (hE:EnvR tab β env a):EnvR tab β' env a:=RVs.mono h _ _ hE
theorem EnvR.put {tab:Tab}{β:Nat->Option Loc}{env:List V}{a:Act} (hE:EnvR tab β env a) (d:Option Nat) {v:V}{c:Value} (h:RV tab β v c):EnvR tab β (put env d v) (a.put d c):=by
 cases d with
 | none=>exact hE
 | some d =>
  simp only[EnvR,Wm.put,Act.put,Array.toList_setIfInBounds]
  exact RVs.set hE d h
def Gw (P:Program) (o:Oper) (a:Act) (w:World) (R:Value->World->Prop) (Q:Exit->Act->World->Prop):Prop :=
 o.wp P a w (fun a' w'=>∃cv,a'=a.put o.dst cv/\R cv w') Q
def Post (tab:Tab) (β:Nat->Option Loc) (h:H) (w:World) (v:V) (h':H) (cv:Value) (w':World):Prop :=
 ∃β',RV tab β' v cv/\Rel tab β' h'.get w'/\Tr β β' h h' w w'
section
variable {P:Program}{o:Oper}{a:Act}{w w':World}{R:Value->World->Prop}{Q:Exit->Act->World->Prop}
theorem z03 {cv:Value} (hrun:(Go.execOp a.eval o).run P w=.ok (.value cv) w') (hp:R cv w'):Gw P o a w R Q:=by
 unfold Gw Oper.wp
 rw[hrun,Oper.upon_value]
 exact⟨cv,rfl,hp⟩
theorem z0a2 (hrun:(Go.execOp a.eval o).run P w=.ok .skip w') (hp:R Go.undef w'):Gw P o a w R Q:=by
 unfold Gw Oper.wp
 rw[hrun,Oper.upon_skip]
 exact⟨Go.undef,rfl,hp⟩
end
theorem z0b {tab:Tab}{β:Nat->Option Loc}{h:H}{w:World}{v:V}{cv:Value} (hv:RV tab β v cv) (hr:Rel tab β h.get w):Post tab β h w v h cv w :=
 ⟨β,hv,hr,Tr.refl h w⟩
theorem z0i8 {w w':World}{B:Nat} (h:w'.heap[B]?=w.heap[B]?) (i:Nat):w'.cell? ⟨B,i,none⟩=w.cell? ⟨B,i,none⟩:=by
 simp only[World.cell?,h]
theorem z0gf {w:World}{B:Nat}{x:Obj} (h:w.heap[B]?=some x):B<w.heap.size:=by
 rcases Nat.lt_or_ge B w.heap.size with hb | hb
 ·exact hb
 ·simp[Array.getElem?_eq_none hb] at h
theorem BlkR.lt {tab:Tab}{β:Nat->Option Loc}{w:World}{l:Loc}{x:Blk} (h:BlkR tab β w l x):l.blk<w.heap.size:=by
 cases x with
 | cells cs k=>exact h.1
 | map es=>obtain⟨ents,clock,hm,_⟩:=h; exact z0gf hm
theorem BlkR.keep {tab:Tab}{β β':Nat->Option Loc}{w w':World}{l:Loc}{x:Blk} (h:BlkR tab β w l x) (he:Ext β β') (hs:w.heap.size<=w'.heap.size) (hb:w'.heap[l.blk]?=w.heap[l.blk]?):BlkR tab β' w' l x:=by
 cases x with
 | cells cs k =>
  obtain⟨h0,h1,h2,h3⟩:=h
  refine⟨by omega,fun i v hv => ?_,fun hk => ?_,h3⟩
  ·obtain⟨c,hc,hr⟩:=h1 i v hv
   exact⟨c,by rw[z0i8 hb]; exact hc,RV.mono he v c hr⟩
  ·obtain⟨c,e,hc,hs⟩:=h2 hk
   exact⟨c,e,by rw[hb]; exact hc,hs⟩
 | map es =>
  obtain⟨ents,clock,hm,hk,hv⟩:=h
  exact⟨ents,clock,by rw[hb]; exact hm,RVs.mono he _ _ hk,RVs.mono he _ _ hv⟩
def upd (β:Nat->Option Loc) (b:Nat) (l:Loc):Nat->Option Loc:=fun c=>if c=b then some l else β c
theorem z029 {β:Nat->Option Loc}{b:Nat}{l:Loc} (h:β b=none):Ext β (upd β b l):=fun c m hc=>by
 unfold upd
 split
 ·rename_i e; subst e; rw[h] at hc; cases hc
 ·exact hc
theorem z03n {tab:Tab}{β:Nat->Option Loc}{h:H}{w:World} (hr:Rel tab β h.get w) (hf:β h.next=none) (x:Blk) (ob:Obj) (l:Loc) (hl:l.blk=w.heap.size) (hx:x.wr=true)
  (hB:BlkR tab (upd β h.next l) { w with heap:=w.heap.push ob } l x) :
  Rel tab (upd β h.next l) (h.new x).get { w with heap:=w.heap.push ob }/\Tr β (upd β h.next l) h (h.new x) w { w with heap:=w.heap.push ob }:=by
 have he:=z029 (l:=l) hf
 have hpush:∀B,B<w.heap.size->(w.heap.push ob)[B]?=w.heap[B]?:=fun B hB=>by rw[Array.getElem?_push,if_neg (by omega)]
 have hnone:h.get h.next=none:=by
  cases hg:h.get h.next with
  | none=>rfl
  | some y=>obtain⟨m,hm,_⟩:=hr.blk _ _ hg; rw[hf] at hm; cases hm
 refine⟨⟨fun b y hb => ?_,fun b y b' y' m m' hb hb' hne hm hm' hy => ?_⟩,⟨he,fun b hb => ?_,by simp,rfl,rfl,rfl,by simp,fun B hB _=>hpush B hB,fun b y m hb hm => ?_⟩⟩
 ·rw[H.get_new] at hb
  split at hb
  ·rename_i e; subst e; cases hb; exact⟨l,by simp[upd],hB⟩
  ·obtain⟨m,hm,hR⟩:=hr.blk b y hb
   exact⟨m,he b m hm,hR.keep he (by simp) (hpush _ hR.lt)⟩
 ·rw[H.get_new] at hb hb'
  have old:∀c z n,c≠h.next->h.get c=some z->upd β h.next l c=some n->n.blk≠l.blk:=by
   intro c z n hc hz hn
   unfold upd at hn
   rw[if_neg hc] at hn
   obtain⟨m2,hm2,hR2⟩:=hr.blk c z hz
   rw[hn] at hm2; cases hm2
   have:=hR2.lt
   omega
  split at hb
  ·rename_i e; subst e; cases hb
   have hm2:m=l:=by simp[upd] at hm; exact hm.symm
   subst hm2
   have hbn':b'≠h.next:=fun e=>hne e.symm
   rw[if_neg hbn'] at hb'
   exact fun e=>old b' y' m' hbn' hb' hm' e.symm
  ·rename_i hbn
   split at hb'
   ·rename_i e; subst e; cases hb'
    have hm2:m'=l:=by simp[upd] at hm'; exact hm'.symm
    subst hm2
    exact old b y m hbn hb hm
   ·rename_i hbn'
    unfold upd at hm hm'
    rw[if_neg hbn] at hm; rw[if_neg hbn'] at hm'
    exact hr.sep b y b' y' m m' hb hb' hne hm hm' hy
 ·simp only[upd,ne_eq] at hb
  split at hb
  ·rename_i e; exact .inr ⟨by omega,by simp; omega⟩
  ·exact .inl hb
 ·rw[H.get_new] at hb
  split at hb
  ·rename_i e; subst e
   have:m=l:=by simp[upd] at hm; exact hm.symm
   subst this; exact .inl (by omega)
  ·rename_i hbn
   unfold upd at hm; rw[if_neg hbn] at hm
   exact .inr ⟨b,y,m,hb,hm,rfl,id⟩
end Wm
