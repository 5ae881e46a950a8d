/- The arguments of a law, opened into my machine's heap: each slice is a block that is only read. -/
import Derived.Test.YthkimcdeejjmbaaWmEv
import Derived.Below
import Derived.ChangeArms
import Derived.ChangeOld
import Derived.WideShapes
import Derived.Carry
set_option linter.all false
namespace Wm
open Go (Value Addr World Obj Program IntKind TypeId TypeDesc Field DataW MemPlace)
inductive CSh where
 | bool
 | int (k:IntKind)
 | str
 | sl (bytes:Nat) (e:List CSh)
def CSh.isSl:CSh->Bool
 | .sl _ _=>true
 | _=>false
def z006 (f:TypeId->Option (List CSh)):Nat->List Field->Option (List CSh)
 | _,[]=>some []
 | off,fd :: fs=>match f fd.type with
  | none=>none
  | some s=>match Nat.beq fd.offset off with
   | false=>none
   | true=>match z006 f (off+s.length) fs with
    | some r=>some (s ++ r)
    | none=>none
def shOf (P:Program):Nat->TypeId->Option (List CSh)
 | 0,_=>none
 | n+1,t =>
  match (match P.underlying t with
   | some .bool=>some [CSh.bool]
   | some (.int k)=>some [.int k]
   | some .string=>some [.str]
   | some (.slice e)=>match shOf P n e with
    | some s=>match s with
     | []=>none
     | _ :: _=>some [.sl (P.bytesOf e) s]
    | none=>none
   | some (.struct fs)=>z006 (shOf P n) 0 fs.toList
   | _=>none) with
  | some s=>match Nat.beq (P.cellsOf t) s.length with
   | true=>some s
   | false=>none
  | none=>none
mutual
def CellOk (g:Nat->Option Blk):CSh->V->Prop
 | .bool,v=>∃b,v=.bool b
 | .int k,v=>∃n,v=.int k n/\(Go.Lit.int k n).wf=true
 | .str,v=>∃s,v=.str s/\s.size<=140737488351232
 | .sl by' e,v=>v=.nilsl\/∃b n cs,v=.sl b 0 n (.op e.length)/\(n<=Go.maxLen/\n * by'<=140737488351232)/\g b=some (.cells cs .ro)/\cs.length=n * e.length/\∀i,i<n->CellsOk g e ((cs.drop (i * e.length)).take e.length)
def CellsOk (g:Nat->Option Blk):List CSh->List V->Prop
 | [],l=>l=[]
 | s :: ss,l=>∃v vs,l=v :: vs/\CellOk g s v/\CellsOk g ss vs
end
def GExt (g g':Nat->Option Blk):Prop:=∀b x,g b=some x->g' b=some x
theorem GExt.refl (g:Nat->Option Blk):GExt g g:=fun _ _ h=>h
theorem GExt.trans {a b c:Nat->Option Blk} (h:GExt a b) (k:GExt b c):GExt a c:=fun x y hx=>k x y (h x y hx)
mutual
theorem CellOk.mono {g g':Nat->Option Blk} (hg:GExt g g'):∀(s:CSh) (v:V),CellOk g s v->CellOk g' s v
 | .bool,_,h=>h
 | .int _,_,h=>h
 | .str,_,h=>h
 | .sl _ e,_,h=>by
  unfold CellOk at h ⊢
  rcases h with h | ⟨b,n,cs,h1,h2,h3,h4,h5⟩
  ·exact .inl h
  ·exact .inr ⟨b,n,cs,h1,h2,hg b _ h3,h4,fun i hi=>CellsOk.mono hg e _ (h5 i hi)⟩
theorem CellsOk.mono {g g':Nat->Option Blk} (hg:GExt g g'):∀(s:List CSh) (l:List V),CellsOk g s l->CellsOk g' s l
 | [],_,h=>h
 | s :: ss,_,h=>by
  unfold CellsOk at h ⊢
  obtain⟨v,vs,h1,h2,h3⟩:=h
  exact⟨v,vs,h1,CellOk.mono hg s v h2,CellsOk.mono hg ss vs h3⟩
end
theorem CellsOk.length {g:Nat->Option Blk}:∀ {s:List CSh}{l:List V},CellsOk g s l->l.length=s.length
 | [],_,h=>by unfold CellsOk at h; subst h; rfl
 | s :: ss,_,h=>by
  unfold CellsOk at h
  obtain⟨v,vs,rfl,_,h3⟩:=h
  simp[CellsOk.length h3]
theorem CellsOk.append {g:Nat->Option Blk}:∀ {s s2:List CSh}{l l2:List V},CellsOk g s l->CellsOk g s2 l2->CellsOk g (s ++ s2) (l ++ l2)
 | [],_,_,_,h,k=>by unfold CellsOk at h; subst h; exact k
 | s :: ss,_,_,_,h,k=>by
  unfold CellsOk at h
  obtain⟨v,vs,rfl,h2,h3⟩:=h
  show CellsOk g (s :: (ss ++ _)) (v :: (vs ++ _))
  unfold CellsOk
  exact⟨v,_,rfl,h2,h3.append k⟩
theorem RVs.append2 {tab:Tab}{β:Nat->Option Loc}:∀ {l l2:List V}{c c2:List Value},RVs tab β l c->RVs tab β l2 c2->RVs tab β (l ++ l2) (c ++ c2)
 | [],_,_,_,h,k=>by cases h; exact k
 | v :: vs,_,_,_,h,k=>by
  obtain⟨y,ys,rfl,h2,h3⟩:=h
  exact⟨y,_,rfl,h2,RVs.append2 h3 k⟩
structure Good (tab:Tab) (β:Nat->Option Loc) (h:H) (w:World):Prop where
 rel:Rel tab β h.get w
 ro:∀b x,h.get b=some x->∃cs,x=.cells cs .ro
 ok:h.ok
 free:∀b,h.next<=b->β b=none
theorem z06g (b:Nat):(H.empty).get b=none:=T.get_leaf b
theorem Good.empty (tab:Tab) (w:World):Good tab (fun _=>none) .empty w where
 rel:=by
  refine⟨fun b x h => ?_,fun b x b' x' l l' h => ?_⟩
  ·rw[z06g] at h; cases h
  ·rw[z06g] at h; cases h
 ro:=fun b x h=>by rw[z06g] at h; cases h
 ok:=H.ok_empty
 free:=fun _ _=>rfl
def updL (β:Nat->Option Loc) (b:Nat) (l:Loc):Nat->Option Loc:=fun c=>if c=b then some l else β c
theorem Good.new {tab:Tab}{β:Nat->Option Loc}{h:H}{w:World} (G:Good tab β h w) {l:Loc}{cs:List V} (hl:l.blk<w.heap.size)
  (hc:∀i v,cs[i]?=some v->∃c,w.cell? ⟨l.blk,i+l.sh,none⟩=some c/\RV tab β v c) :
  Ext β (updL β h.next l)/\GExt h.get (h.new (.cells cs .ro)).get/\Good tab (updL β h.next l) (h.new (.cells cs .ro)) w:=by
 have he:Ext β (updL β h.next l):=fun b m hb=>by
  unfold updL
  split
  ·rename_i e; subst e; rw[G.free _ (Nat.le_refl _)] at hb; cases hb
  ·exact hb
 have hg:GExt h.get (h.new (.cells cs .ro)).get:=fun b x hb=>by
  rw[z0z (Nat.ne_of_lt (G.ok.lt hb))]; exact hb
 have hro:∀b x,(h.new (.cells cs .ro)).get b=some x->∃cs,x=.cells cs .ro:=fun b x hb=>by
  rw[H.get_new] at hb
  split at hb
  ·cases hb; exact⟨_,rfl⟩
  ·exact G.ro b x hb
 refine⟨he,hg,⟨⟨fun b x hb => ?_,fun b x b' x' l1 l2 hb _ _ _ _ hx => ?_⟩,hro,G.ok.new _,fun b hb => ?_⟩⟩
 ·rw[H.get_new] at hb
  split at hb
  ·rename_i e; cases hb; subst e
   refine⟨l,by simp[updL],hl,fun i v hv => ?_,fun q=>absurd rfl q,fun e he=>by cases he⟩
   obtain⟨c,h1,h2⟩:=hc i v hv
   exact⟨c,h1,RV.mono he _ _ h2⟩
  ·rename_i e
   obtain⟨cs',rfl⟩:=G.ro b x hb
   obtain⟨l',hl',h0,h1,_,_⟩:=G.rel.blk b _ hb
   refine⟨l',he b l' hl',h0,fun i v hv => ?_,fun q=>absurd rfl q,fun e he=>by cases he⟩
   obtain⟨c,h1,h2⟩:=h1 i v hv
   exact⟨c,h1,RV.mono he _ _ h2⟩
 ·obtain⟨cs',rfl⟩:=hro b x hb
  cases hx
 ·simp only[H.next_new] at hb
  unfold updL
  rw[if_neg (by omega)]
  exact G.free b (by omega)
theorem zc7 {α:Type}{z:Nat}:∀ {l:List (List α)},(∀x∈l,x.length=z)->l.flatten.length=l.length * z
 | [],_=>by simp
 | x :: l,h=>by
  rw[List.flatten_cons,List.length_append,h x (by simp),zc7 fun y hy=>h y (by simp[hy]),List.length_cons,Nat.add_mul]
  omega
theorem zwk {α:Type}{z:Nat}:∀ {l:List (List α)},(∀x∈l,x.length=z)->∀i x,l[i]?=some x->(l.flatten.drop (i * z)).take z=x
 | [],_,i,x,hx=>by simp at hx
 | y :: l,h,0,x,hx=>by
  simp at hx; subst hx
  have:=h y (by simp)
  simp[<-this]
 | y :: l,h,i+1,x,hx=>by
  have hy:=h y (by simp)
  rw[List.flatten_cons,Nat.add_mul,Nat.one_mul,Nat.add_comm,<-List.drop_drop,List.drop_left' hy]
  exact zwk (fun y hy=>h y (by simp[hy])) i x (by simpa using hx)
theorem z0e7 {α:Type}{z:Nat}:∀ {l:List (List α)},(∀x∈l,x.length=z)->∀j v,l.flatten[j]?=some v->∃i r x,j=i * z+r/\r<z/\l[i]?=some x/\x[r]?=some v
 | [],_,j,v,hv=>by simp at hv
 | y :: l,h,j,v,hv=>by
  have hy:=h y (by simp)
  rw[List.flatten_cons] at hv
  by_cases hj:j<y.length
  ·rw[List.getElem?_append_left hj] at hv
   exact⟨0,j,y,by simp,by omega,rfl,hv⟩
  ·rw[List.getElem?_append_right (by omega)] at hv
   obtain⟨i,r,x,h1,h2,h3,h4⟩:=z0e7 (fun y hy=>h y (by simp[hy])) _ v hv
   refine⟨i+1,r,x,?_,h2,by simpa using h3,h4⟩
   rw[Nat.add_mul]; omega
theorem z0gl {α:Type}{p:Nat->α->Prop}:∀n,(∀i,i<n->∃c,p i c)->∃l:List α,l.length=n/\∀i c,l[i]?=some c->p i c
 | 0,_=>⟨[],rfl,fun i c h=>by simp at h⟩
 | n+1,h=>by
  obtain⟨l,h1,h2⟩:=z0gl n fun i hi=>h i (by omega)
  obtain⟨c,hc⟩:=h n (by omega)
  refine⟨l ++ [c],by simp[h1],fun i d hd => ?_⟩
  by_cases hi:i<l.length
  ·rw[List.getElem?_append_left hi] at hd; exact h2 i d hd
  ·rw[List.getElem?_append_right (by omega)] at hd
   have:i-l.length=0:=by
    rcases Nat.eq_zero_or_pos (i-l.length) with q | q
    ·exact q
    ·rw[List.getElem?_eq_none (by simp; omega)] at hd; cases hd
   rw[this] at hd
   simp at hd; subst hd
   rw[show i=n by omega]; exact hc
section
variable {H':Type}{enc:TypeId × Value->H'}{P:Program}{w:World}{base:Nat}{held:Bool}{tab:Tab}
theorem z0ht {P:Program}{t:TypeId}{n:Nat}{s:ByteArray} (h:∀x∈(DataW.lit (.string s.data.toList):DataW H').weights P t,x<=n):s.size<=n :=
 h _ (by rw[show s.size=s.data.toList.length from (Array.length_toList).symm]; exact List.mem_singleton.mpr rfl)
theorem z02l {e:TypeId}:∀(l:List (DataW H')) (d:DataW H'),d∈l->∀x∈d.weights P e,x∈DataW.weightsAll P e l
 | [],_,h=>by cases h
 | d' :: l,d,h=>fun x hx=>by
  unfold DataW.weightsAll
  rcases List.mem_cons.mp h with rfl | h
  ·exact List.mem_append_left _ hx
  ·exact List.mem_append_right _ (z02l l d h x hx)
theorem z00y:∀(ts:List TypeId) (l:List (DataW H')) (i:Nat) (t:TypeId) (d:DataW H'),ts[i]?=some t->l[i]?=some d->∀x∈d.weights P t,x∈DataW.weightsEach P ts l
 | [],_,i,t,d,h,_=>by simp at h
 | _ :: _,[],i,t,d,_,h=>by simp at h
 | t' :: ts,d' :: l,i,t,d,h1,h2=>fun x hx=>by
  unfold DataW.weightsEach
  cases i with
  | zero=>simp at h1 h2; subst h1; subst h2; exact List.mem_append_left _ hx
  | succ i=>exact List.mem_append_right _ (z00y ts l i t d (by simpa using h1) (by simpa using h2) x hx)
def Lays (tab:Tab) (w:World) (sh:List CSh) (cs:List Value):Prop :=
 ∀β h,Good tab β h w->∃β' h' vs,Ext β β'/\GExt h.get h'.get/\Good tab β' h' w/\RVs tab β' vs cs/\CellsOk h'.get sh vs
def Elems (tab:Tab) (β:Nat->Option Loc) (g:Nat->Option Blk) (sh:List CSh):List (List Value)->List (List V)->Prop
 | [],l=>l=[]
 | c :: cs,l=>∃v vs,l=v :: vs/\RVs tab β v c/\CellsOk g sh v/\Elems tab β g sh cs vs
theorem Elems.get {β:Nat->Option Loc}{g:Nat->Option Blk}{sh:List CSh}:∀ {cs:List (List Value)}{l:List (List V)},Elems tab β g sh cs l->l.length=cs.length/\∀(i:Nat) (v:List V),l[i]?=some v->∃c,cs[i]?=some c/\RVs tab β v c/\CellsOk g sh v
 | [],l,h=>by
  have h:l=[]:=h
  subst h
  exact⟨rfl,fun i v h=>by simp at h⟩
 | c :: cs,_,h=>by
  obtain⟨v,vs,rfl,h1,h2,h3⟩:=h
  obtain⟨k1,k2⟩:=Elems.get h3
  refine⟨by simp[k1],fun i u hu => ?_⟩
  cases i with
  | zero=>simp at hu; subst hu; exact⟨c,rfl,h1,h2⟩
  | succ i=>exact k2 i u (by simpa using hu)
theorem z08n {sh:List CSh}:∀(l:List (List Value)),(∀c∈l,Lays tab w sh c)->∀β h,Good tab β h w->∃β' h' vss,Ext β β'/\GExt h.get h'.get/\Good tab β' h' w/\Elems tab β' h'.get sh l vss
 | [],_,β,h,G=>⟨β,h,[],Ext.refl _,GExt.refl _,G,rfl⟩
 | c :: l,hl,β,h,G=>by
  obtain⟨β1,h1,vss,e1,g1,G1,E1⟩:=z08n l (fun c hc=>hl c (by simp[hc])) β h G
  obtain⟨β2,h2,vs,e2,g2,G2,r2,k2⟩:=hl c (by simp) β1 h1 G1
  refine⟨β2,h2,vs :: vss,e1.trans e2,g1.trans g2,G2,vs,vss,rfl,r2,k2,?_⟩
  clear hl
  have key:∀ {a:List (List Value)}{b:List (List V)},Elems tab β1 h1.get sh a b->Elems tab β2 h2.get sh a b:=by
   intro a
   induction a with
   | nil=>intro b h; exact h
   | cons x a ih =>
    intro b h
    obtain⟨v,vs,rfl,q1,q2,q3⟩:=h
    exact⟨v,vs,rfl,RVs.mono e2 v x q1,CellsOk.mono g2 _ _ q2,ih q3⟩
  exact key E1
theorem z0k4:Lays tab w [] []:=fun β h G=>⟨β,h,[],Ext.refl _,GExt.refl _,G,rfl,by unfold CellsOk; rfl⟩
theorem z005 {s:CSh}{c:Value}{v:V} (hr:∀β,RV tab β v c) (hk:∀g,CellOk g s v):Lays tab w [s] [c]:=fun β h G =>
 ⟨β,h,[v],Ext.refl _,GExt.refl _,G,⟨c,[],rfl,hr β,rfl⟩,by unfold CellsOk; exact⟨v,[],rfl,hk _,by unfold CellsOk; rfl⟩⟩
theorem z0fx {s s2:List CSh}{c c2:List Value} (h1:Lays tab w s c) (h2:Lays tab w s2 c2):Lays tab w (s ++ s2) (c ++ c2):=fun β h G=>by
 obtain⟨β1,g1,v1,e1,x1,G1,r1,k1⟩:=h1 β h G
 obtain⟨β2,g2,v2,e2,x2,G2,r2,k2⟩:=h2 β1 g1 G1
 exact⟨β2,g2,v1 ++ v2,e1.trans e2,x1.trans x2,G2,RVs.append2 (RVs.mono e2 _ _ r1) r2,CellsOk.append (CellsOk.mono x2 _ _ k1) k2⟩
theorem z07x {f:TypeId->Option (List CSh)}{cs:List Value}{p:TypeId->List Value->Prop} (hlen:∀t s,f t=some s->P.cellsOf t=s.length) (hp:∀t s c,f t=some s->(s.any CSh.isSl=true->0<w.heap.size)->p t c->Lays tab w s c) :
  ∀(fl:List Field) (off:Nat) (sh:List CSh),z006 f off fl=some sh->(sh.any CSh.isSl=true->0<w.heap.size)->(∀fd∈fl,p fd.type ((cs.drop fd.offset).take (P.cellsOf fd.type)))->Lays tab w sh ((cs.drop off).take sh.length)
 | [],off,sh,h,_,_=>by
  cases h
  simpa using z0k4
 | fd :: fl,off,sh,h,hw,hf=>by
  unfold z006 at h
  split at h
  ·cases h
  rename_i s hs
  split at h
  ·cases h
  rename_i ho
  have ho:=Nat.eq_of_beq_eq_true ho
  split at h
  ·rename_i r hr
   cases h
   have ih:=z07x hlen hp fl _ r hr (fun q=>hw (by rw[List.any_append,q,Bool.or_true])) fun fd hfd=>hf fd (by simp[hfd])
   have h0:=hp _ _ _ hs (fun q=>hw (by rw[List.any_append,q,Bool.true_or])) (hf fd (by simp))
   rw[ho,hlen _ _ hs] at h0
   have:=z0fx h0 ih
   rw[List.length_append,List.take_add,List.drop_drop]
   exact this
  ·cases h
theorem z035 {n:Nat}{t:TypeId}{s:List CSh} (h:shOf P n t=some s):P.cellsOf t=s.length:=by
 cases n with
 | zero=>simp[shOf] at h
 | succ n =>
  unfold shOf at h
  split at h
  ·split at h
   ·rename_i hb; cases h; exact Nat.eq_of_beq_eq_true hb
   ·cases h
  ·cases h
theorem z0eg {n : Nat} {t : TypeId} {s : List CSh} (h : shOf P (n + 1) t = some s) : (match P.underlying t with
      | some .bool=>some [CSh.bool]
      | some (.int k)=>some [.int k]
      | some .string=>some [.str]
      | some (.slice e)=>match shOf P n e with
        | some s=>match s with
          | []=>none
          | _ :: _=>some [.sl (P.bytesOf e) s]
        | none=>none
      | some (.struct fs)=>z006 (shOf P n) 0 fs.toList
      | _=>none)=some s:=by
  unfold shOf at h
  split at h
  · rename_i s' e
    split at h
    · cases h; exact e
    · cases h
  · cases h
theorem zww:∀(fuel:Nat) (t:TypeId) (cs:List Value) (y:DataW H' × List MemPlace),DataW.trod enc P w base (fun _=>true) held fuel t cs=some y ->
  (∀x∈y.1.weights P t,x<=140737488351232)->∀(m:Nat) (sh:List CSh),shOf P m t=some sh->(sh.any CSh.isSl=true->0<w.heap.size)->Lays tab w sh cs:=by
 intro fuel
 induction fuel with
 | zero=>intro t cs y h; simp[DataW.trod] at h
 | succ fuel ih =>
  intro t cs y hy hwt m sh hs hw
  cases m with
  | zero=>simp[shOf] at hs
  | succ m =>
   have hl:=z035 hs
   have hp:=z0eg hs
   split at hp
   ·rename_i hu
    cases hp
    obtain⟨b,rfl,_⟩:=DataW.trod_bool hu hy
    exact z005 (v:=.bool b) (fun _=>rfl) fun g=>by unfold CellOk; exact⟨b,rfl⟩
   ·rename_i k hu
    cases hp
    obtain⟨n,rfl,_,hwf⟩:=DataW.trod_int hu hy
    exact z005 (v:=.int k n) (fun _=>rfl) fun g=>by unfold CellOk; exact⟨n,rfl,hwf⟩
   ·rename_i hu
    cases hp
    obtain⟨s,rfl,rfl,_⟩:=DataW.trod_string hu hy
    exact z005 (v:=.str s) (fun _=>rfl) fun g=>by unfold CellOk; exact⟨s,rfl,z0ht hwt⟩
   ·rename_i e hu
    split at hp
    ·rename_i s hse
     split at hp
     ·cases hp
     ·rename_i s0 s1
      cases hp
      have hw:0<w.heap.size:=hw rfl
      have hz:=z035 hse
      have hz0:0<P.cellsOf e:=by rw[hz]; simp
      rcases DataW.trod_slice hu hy with ⟨rfl,_⟩ | ⟨a,len,cap,elems,rest,n,hn,rfl,hyx,hba,hlc,hcm,hel,hE,hR,_⟩
      ·exact z005 (v:=.nilsl) (fun _=>rfl) fun g=>by unfold CellOk; exact .inl rfl
      ·cases hn
       have hR:=(hR rfl)
       subst hyx
       simp only[DataW.weights,hu,List.length_map,List.mem_cons,List.mem_append] at hwt
       have hby:len * P.bytesOf e<=140737488351232:=Nat.le_trans (Nat.mul_le_mul_right _ (by omega)) (hwt _ (.inl rfl))
       have hE':∀i,i<len->∃c,w.cells? base (a.add (i * P.cellsOf e)) (P.cellsOf e)=some c/\∃z,DataW.trod enc P w base (fun _=>true) held fuel e c=some z/\∀x∈z.1.weights P e,x<=140737488351232:=by
        intro i hi
        have:=hE i hi
        rw[List.getElem?_eq_getElem (by omega),Option.bind_eq_some_iff] at this
        obtain⟨c,h1,h2⟩:=this
        exact⟨c,h1,_,h2,fun x hx=>hwt x (.inr (.inl (z02l _ _ (List.mem_map_of_mem (List.getElem_mem (show i<elems.length by omega))) x hx)))⟩
       have hspot:0<cap->a.spot=none/\a.block<w.heap.size:=by
        intro h0
        have:∃c,w.cells? base (a.add 0) (P.cellsOf e)=some c:=by
         rcases Nat.eq_zero_or_pos len with q | q
         ·have:=hR.2 0 (by omega)
          rw[List.getElem?_eq_getElem (by omega),Option.bind_eq_some_iff] at this
          obtain⟨c,h1,_⟩:=this
          refine⟨c,?_⟩
          rw[q] at h1
          simpa using h1
         ·obtain⟨c,h1,_⟩:=hE' 0 q
          exact⟨c,by simpa using h1⟩
        obtain⟨c,hc⟩:=this
        have hc':w.cells? base a (P.cellsOf e)=some c:=by simpa [Addr.add] using hc
        obtain⟨_,h2,h3⟩:=World.cells?_some hc'
        refine⟨?_,Go.World.cells?_block hc' hz0⟩
        have h4:=h3 0 hz0
        rw[List.getElem?_eq_getElem (by omega)] at h4
        have:=Go.World.cell?_spot h4
        simpa [Addr.add] using this
       obtain⟨css,hcl,hcs⟩:=z0gl len hE'
       intro β h G
       obtain⟨β1,h1,vss,e1,g1,G1,E1⟩:=z08n (tab:=tab) (w:=w) (sh:=s0 :: s1) css (fun c hc=>by
        obtain⟨i,hi⟩:=List.mem_iff_getElem?.mp hc
        obtain⟨_,z,hz,hzw⟩:=hcs i c hi
        exact ih e c z hz hzw m _ hse fun _=>hw) β h G
       obtain⟨hvl,hvs⟩:=Elems.get E1
       have hvz:∀x∈vss,x.length=(s0 :: s1).length:=fun x hx=>by
        obtain⟨i,hi⟩:=List.mem_iff_getElem?.mp hx
        obtain⟨_,_,_,hk⟩:=hvs i x hi
        exact hk.length
       -- where it lies
       have hloc:∃l:Loc,l.blk<w.heap.size/\l.sh=a.off/\a.off+cap * P.cellsOf e<=l.size/\l.esz=P.cellsOf e/\(0<cap->a=⟨l.blk,a.off,none⟩):=by
        by_cases h0:0<cap
        ·obtain⟨q1,q2⟩:=hspot h0
         refine⟨⟨a.block,a.off,a.off+cap * P.cellsOf e,P.cellsOf e⟩,q2,rfl,Nat.le_refl _,rfl,fun _ => ?_⟩
         cases a; simp only at q1; rw[q1]
        ·exact⟨⟨0,a.off,a.off+cap * P.cellsOf e,P.cellsOf e⟩,hw,rfl,Nat.le_refl _,rfl,fun q=>absurd q h0⟩
       obtain⟨l,hl1,hl2,hl3,hl4,hl5⟩:=hloc
       obtain⟨e2,g2,G2⟩:=G1.new (l:=l) (cs:=vss.flatten) hl1 (fun j v hv=>by
        obtain⟨i,r,x,rfl,hr,hx,hxr⟩:=z0e7 hvz j v hv
        obtain⟨c,hc,hrv,_⟩:=hvs i x hx
        obtain⟨hcells,_⟩:=hcs i c hc
        obtain⟨y,hy,hyr⟩:=RVs.get hrv r v hxr
        have hi:i<len:=by
         rcases Nat.lt_or_ge i css.length with q | q
         ·omega
         ·rw[List.getElem?_eq_none q] at hc; cases hc
        have ha:=hl5 (by omega)
        obtain⟨_,_,h3⟩:=World.cells?_some hcells
        refine⟨y,?_,hyr⟩
        rw[<-hy,<-h3 r (by rw[hz]; exact hr),ha,zhw,zhw,hl2,hz]
        congr 2; omega)
       refine⟨_,_,[.sl h1.next 0 len (.op (s0 :: s1).length)],e1.trans e2,g1.trans g2,G2,⟨_,[],rfl,⟨l,cap,a,by simp[updL],rfl,hlc,hl5,fun _=>by rw[hl2]; omega,by rw[<-hz]; exact hl3,by rw[hl4,hz]⟩,rfl⟩,?_⟩
       unfold CellsOk
       refine⟨_,[],rfl,?_,by unfold CellsOk; rfl⟩
       unfold CellOk
       refine .inr ⟨_,len,vss.flatten,rfl,⟨by omega,hby⟩,ze _ _,by rw[zc7 hvz,hvl,hcl],fun i hi => ?_⟩
       have hiv:i<vss.length:=by omega
       have hvi:vss[i]?=some vss[i]:=List.getElem?_eq_getElem hiv
       obtain⟨_,_,_,hk⟩:=hvs i _ hvi
       rw[zwk hvz i _ hvi]
       exact CellsOk.mono g2 _ _ hk
    ·cases hp
   ·rename_i fs hu
    obtain⟨xs,n,hn,rfl,hlen,hxl,hf⟩:=DataW.trod_struct hu hy
    cases hn
    simp only[DataW.weights,hu] at hwt
    have:=z07x (P:=P) (tab:=tab) (w:=w) (f:=shOf P m) (cs:=cs) (p:=fun t c=>∃z,DataW.trod enc P w base (fun _=>true) held fuel t c=some z/\∀x∈z.1.weights P t,x<=140737488351232)
     (fun t s h=>z035 h) (fun t s c hs hw ⟨z,hz,hzw⟩=>ih t c z hz hzw m s hs hw) fs.toList 0 sh hp hw (fun fd hfd=>by
      obtain⟨i,hi⟩:=List.mem_iff_getElem?.mp hfd
      have hi':fs[i]?=some fd:=by simpa using hi
      have hlt:i<xs.length:=by
       rw[hxl]
       rcases Nat.lt_or_ge i fs.size with q | q
       ·exact q
       ·rw[Array.getElem?_eq_none q] at hi'; cases hi'
      have:=hf i fd hi'
      rw[List.getElem?_eq_getElem hlt] at this
      refine⟨_,this,fun x hx=>hwt x (z00y (fs.toList.map (·.type)) (xs.map (·.1)) i fd.type xs[i].1 (by simp[hi']) (by simp[hlt]) x hx)⟩)
    rw[<-hl,<-hlen] at this
    simpa using this
   ·cases hp
end
def z0hi (P:Program) (t:TypeId):Option (Bool × List CSh) :=
 match shOf P 8 t with
 | some s=>match P.underlying t with
  | some (.struct _)=>match s.any CSh.isSl with
   | true=>none
   | false=>some (true,s)
  | _=>some (false,s)
 | none=>none
def z099 (P:Program):List TypeId->Option (List (Bool × List CSh))
 | []=>some []
 | t :: ts=>match z0hi P t with
  | some s=>match z099 P ts with
   | some ss=>some (s :: ss)
   | none=>none
  | none=>none
def ArgOk (g:Nat->Option Blk) (s:Bool × List CSh) (v:V):Prop:=match s.1 with
 | true=>∃vs,v=.agg vs/\CellsOk g s.2 vs
 | false=>CellsOk g s.2 [v]
def z09t (g:Nat->Option Blk):List (Bool × List CSh)->List V->Prop
 | [],l=>l=[]
 | s :: ss,l=>∃v vs,l=v :: vs/\ArgOk g s v/\z09t g ss vs
theorem ArgOk.mono {g g':Nat->Option Blk} (hg:GExt g g') {s:Bool × List CSh}{v:V} (h:ArgOk g s v):ArgOk g' s v:=by
 obtain⟨b,s⟩:=s
 cases b with
 | true=>obtain⟨vs,rfl,k⟩:=h; exact⟨vs,rfl,CellsOk.mono hg _ _ k⟩
 | false=>exact CellsOk.mono hg s [v] h
section
variable {H':Type}{enc:TypeId × Value->H'}{P:Program}{w:World}{tab:Tab}
def z0gh (tab:Tab) (w:World) (s:Bool × List CSh) (c:Value):Prop :=
 ∀β h,Good tab β h w->∃β' h' v,Ext β β'/\GExt h.get h'.get/\Good tab β' h' w/\RV tab β' v c/\ArgOk h'.get s v
theorem zpk {s:List CSh}{c:Value} (hs:s.length=1) (hl:Lays tab w s [c]):z0gh tab w (false,s) c:=fun β h G=>by
 obtain⟨β',h',vs,e,x,G',r,k⟩:=hl β h G
 obtain⟨y,ys,hy,r1,r2⟩:∃y ys,vs=y :: ys/\RV tab β' y c/\RVs tab β' ys []:=by
  cases vs with
  | nil=>cases r
  | cons y ys=>obtain⟨a,b,e1,e2,e3⟩:=r; cases e1; exact⟨y,ys,rfl,e2,e3⟩
 have:ys=[]:=by
  cases ys with
  | nil=>rfl
  | cons a b=>obtain⟨_,_,e1,_⟩:=r2; cases e1
 subst this; subst hy
 exact⟨β',h',y,e,x,G',r1,k⟩
theorem z0hq {t:TypeId}{v:Value}{base:Nat}{d:DataW H'}{p:List MemPlace} (hwt:∀x∈d.weights P t,x<=140737488351232) (hv:Value.okWide P w .any base t v) (hd:DataW.Trod enc P w 0 (fun _=>true) true t v d p) {s:Bool × List CSh} (hs:z0hi P t=some s):z0gh tab w s v:=by
 unfold z0hi at hs
 split at hs
 ·rename_i sh hsh
  obtain⟨fuel,hd⟩:=hd
  have hl:=z035 hsh
  have hp:=z0eg hsh
  split at hs
  ·rename_i fs hu
   split at hs
   ·cases hs
   ·rename_i hany
    cases hs
    obtain⟨cs,rfl,hcs⟩:=Go.WideShapes.okWide_struct hu hv
    intro β h G
    obtain⟨β',h',vs,e,x,G',r,k⟩:=zww (tab:=tab) fuel t _ _ hd hwt 8 sh hsh (fun q=>by rw[hany] at q; cases q) β h G
    exact⟨β',h',.agg vs,e,x,G',⟨cs,rfl,r⟩,vs,rfl,k⟩
  ·rename_i hns
   cases hs
   split at hp
   ·rename_i hu
    cases hp
    obtain⟨b,rfl⟩:=Go.WideShapes.okWide_bool hu hv
    exact zpk rfl (zww fuel t _ _ hd hwt 8 _ hsh (fun q=>by cases q))
   ·rename_i k hu
    cases hp
    obtain⟨b,rfl⟩:=Go.WideShapes.okWide_int hu hv
    exact zpk rfl (zww fuel t _ _ hd hwt 8 _ hsh (fun q=>by cases q))
   ·rename_i hu
    cases hp
    obtain⟨b,rfl⟩:=Go.WideShapes.okWide_string hu hv
    exact zpk rfl (zww fuel t _ _ hd hwt 8 _ hsh (fun q=>by cases q))
   ·rename_i e hu
    have hs1:sh.length=1:=by
     split at hp
     ·split at hp
      ·cases hp
      ·cases hp; rfl
     ·cases hp
    obtain⟨a,len,cap,rfl⟩:=Go.WideShapes.okWide_slice hu hv
    cases a with
    | none =>
     rcases DataW.trod_slice hu hd with ⟨h0,_⟩ | ⟨a,len,cap,elems,rest,n,hn,h0,_⟩
     ·cases h0
      refine zpk hs1 ?_
      split at hp
      ·split at hp
       ·cases hp
       ·cases hp
        exact z005 (v:=.nilsl) (fun _=>rfl) fun g=>by unfold CellOk; exact .inl rfl
      ·cases hp
     ·cases h0
    | some a =>
     have hsz:0<w.heap.size:=by
      simp only[Value.okWide,hu,Go.Cell.okWide,Go.Cell.ok,World.has] at hv
      obtain⟨_,_,_,_,row,cells,hsp,_⟩:=hv
      unfold World.shape? at hsp
      split at hsp
      ·rename_i q
       have:a.block<w.heap.size:=by
        rcases Nat.lt_or_ge a.block w.heap.size with g | g
        ·exact g
        ·rw[Array.getElem?_eq_none g] at q; cases q
       omega
      ·cases hsp
     exact zpk hs1 (zww fuel t _ _ hd hwt 8 _ hsh fun _=>hsz)
   ·rename_i fs hu
    exact absurd hu (hns fs)
   ·cases hp
 ·cases hs
theorem z07z {base:Nat}:∀(ts:List TypeId) (vs:List Value) (ds:List (DataW H')) (p:List MemPlace) (ss:List (Bool × List CSh)),(∀x∈DataW.weightsEach P ts ds,x<=140737488351232)->DataW.TrodAll enc P w 0 (fun _=>true) true ts vs ds p ->
  (∀(j:Nat) t v,ts[j]?=some t->vs[j]?=some v->Value.okWide P w .any base t v)->z099 P ts=some ss ->
  ∀β h,Good tab β h w->∃β' h' us,Ext β β'/\GExt h.get h'.get/\Good tab β' h' w/\RVs tab β' us vs/\z09t h'.get ss us
 | [],vs,ds,p,ss,_,hA,_,hs,β,h,G=>by
  obtain⟨rfl,_,_⟩:=Go.ChangeShapes.trodAll_nil hA
  cases hs
  exact⟨β,h,[],Ext.refl _,GExt.refl _,G,rfl,rfl⟩
 | t :: ts,vs,ds,p,ss,hwt,hA,hv,hs,β,h,G=>by
  obtain⟨v,vs,d,ds,p,q,rfl,rfl,rfl,h1,h2⟩:=Go.ChangeShapes.trodAll_cons hA
  unfold DataW.weightsEach at hwt
  unfold z099 at hs
  split at hs
  ·rename_i s hs1
   split at hs
   ·rename_i ss hs2
    cases hs
    obtain⟨β1,g1,u,e1,x1,G1,r1,k1⟩:=z0hq (fun x hx=>hwt x (List.mem_append_left _ hx)) (hv 0 t v rfl rfl) h1 hs1 β h G
    obtain⟨β2,g2,us,e2,x2,G2,r2,k2⟩:=z07z ts vs ds q ss (fun x hx=>hwt x (List.mem_append_right _ hx)) h2 (fun j t v a b=>hv (j+1) t v (by simpa using a) (by simpa using b)) hs2 β1 g1 G1
    exact⟨β2,g2,u :: us,e1.trans e2,x1.trans x2,G2,⟨v,vs,rfl,RV.mono e2 _ _ r1,r2⟩,u,us,rfl,k1.mono x2,k2⟩
   ·cases hs
  ·cases hs
theorem law_calls {base:Nat}{call:Nat->List V->H->Option (V × H)} (hC:zfp P tab call) {f k:Nat} (hk:zbg tab.fn k=some f) {ps:Array TypeId}{ss:List (Bool × List CSh)} (hs:z099 P ps.toList=some ss)
  (law:∀h us,h.ok->z09t h.get ss us->Ev (call f us h) fun r=>r.1=.bool true) {args:Array Value}{ds:List (DataW H')}{p:List MemPlace} (hwt:(DataW.weightsEach P ps.toList ds).all (· <= Go.reachBytes)=true) (hA:DataW.TrodAll enc P w 0 (fun _=>true) true ps.toList args.toList ds p)
  (hv:∀(j:Nat) t v,ps[j]?=some t->args[j]?=some v->Value.okWide P w .any base t v) :
  Go.Calls P k args w fun e W'=>e=.returned (.bool true)/\Go.RowKit.Below w.heap.size w W':=by
 obtain⟨β,h,us,_,_,G,r,k1⟩:=z07z (tab:=tab) ps.toList args.toList ds p ss (fun x hx=>of_decide_eq_true (List.all_eq_true.mp hwt x hx)) hA (fun j t v a b=>hv j t v (by simpa using a) (by simpa using b)) hs _ _ (Good.empty tab w)
 obtain⟨⟨_,h'⟩,he,rfl⟩:=law h us G.ok k1
 refine((hC f us h _ h' he k hk).2 β w args G.rel (fun b hb _=>G.free b hb) r).mono ?_
 rintro e W' ⟨cv,rfl,β',hr,_,ht⟩
 have hv:cv=.bool true:=hr
 subst hv
 refine⟨rfl,ht.os,ht.tape,ht.output,ht.size,fun B hB=>ht.frame B hB fun b x l hb hx => ?_⟩
 obtain⟨cs,rfl⟩:=G.ro b x hb
 cases hx
theorem trodAll_stays {W W':World} (hl:Go.laidOutB P=true) (hb:Go.RowKit.Below W.heap.size W W'):∀(ts:List TypeId) (vs:List Value) (ds:List (DataW H')) (p:List MemPlace),DataW.TrodAll enc P W 0 (fun _=>true) true ts vs ds p ->
  (ts.all fun t=>P.readableRec t && decide (t<P.types.size))=true->(∀x∈p,x.block<W.heap.size)->DataW.TrodAll enc P W' 0 (fun b=>decide (b<W.heap.size)) true ts vs ds p
 | [],vs,ds,p,hA,_,_=>by
  obtain⟨rfl,rfl,rfl⟩:=Go.ChangeShapes.trodAll_nil hA
  exact Go.ChangeShapes.trodAll_mk0
 | t :: ts,vs,ds,p,hA,hr,hp=>by
  obtain⟨v,vs,d,ds,p,q,rfl,rfl,rfl,h1,h2⟩:=Go.ChangeShapes.trodAll_cons hA
  simp only[List.all_cons,Bool.and_eq_true,decide_eq_true_eq] at hr
  exact⟨p,q,Go.RowKit.Below.trod hl hr.1.1 hr.1.2 h1 hb (fun x hx=>hp x (by simp[hx])),trodAll_stays hl hb ts vs ds q h2 hr.2 (fun x hx=>hp x (by simp[hx])),rfl⟩
theorem trodAll_len {W:World}{sp:Nat->Bool}{held:Bool}{base:Nat}:∀ {ts:List TypeId}{vs:List Value}{ds:List (DataW H')}{p:List MemPlace},DataW.TrodAll enc P W base sp held ts vs ds p->ds.length=ts.length
 | [],vs,ds,p,hA=>by
  obtain⟨rfl,rfl,rfl⟩:=Go.ChangeShapes.trodAll_nil hA
  rfl
 | t :: ts,vs,ds,p,hA=>by
  obtain⟨v,vs,d,ds,p,q,rfl,rfl,rfl,h1,h2⟩:=Go.ChangeShapes.trodAll_cons hA
  simp[trodAll_len h2]
end
end Wm
