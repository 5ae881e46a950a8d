/- A region that draws its order: what is needed of single operations, and of the bit rows. -/
import Derived.Test.YthkimcdeejjmbaaWmSeq
set_option linter.all false
namespace Wm
open Go (Value Addr World Obj Program IntKind TypeId Oper Operand Act Exit Sem TypeDesc)
section
variable {M:Env}
def Like (ts:List Nat) (e1 e2:List V):Prop:=∀t∈ts,e1.getD t .undef=e2.getD t .undef
theorem z0l9 {e1 e2:List V}{x:Opd}{ts:List Nat} (h:Like ts e1 e2) (hx:∀n,x.tmp=some n->n∈ts):opd e1 x=opd e2 x:=by
 cases x with
 | t n=>exact h n (hx n rfl)
 | c v=>rfl
theorem z0ek {A:AOp}{e1 e2:List V} (h:Like A.tmps e1 e2) {x:Opd} (hx:x∈A.opds):opd e1 x=opd e2 x :=
 z0l9 h fun t ht=>List.mem_filterMap.mpr ⟨x,hx,ht⟩
theorem zzu {e1 e2:List V}:∀ {l:List Opd},(∀x∈l,opd e1 x=opd e2 x)->l.map (opd e1)=l.map (opd e2)
 | [],_=>rfl
 | x :: l,h=>by rw[List.map_cons,List.map_cons,h x (by simp),zzu fun y hy=>h y (by simp[hy])]
theorem z06b {e1 e2:List V}:∀ {ps:List (Nat × Nat × Opd)}{cs:List V},(∀x∈ps.map (fun p=>p.2.2),opd e1 x=opd e2 x)->fill cs e1 ps=fill cs e2 ps
 | [],_,_=>rfl
 | (o,n,x) :: ps,cs,h=>by
  simp only[fill,h x (by simp)]
  split
  ·rfl
  ·split
   ·exact z06b fun y hy=>h y (by simp at hy ⊢; exact .inr hy)
   ·rfl
theorem z0mq {A:AOp}{e1 e2:List V} (h:Like A.tmps e1 e2) (hp:H):sd M A e1 hp=sd M A e2 hp:=by
 have hx:∀x∈A.opds,opd e1 x=opd e2 x:=fun x=>z0ek h
 cases A
 case build z ps=>simp only[sd,step,z06b (fun x q=>hx x q)]
 case buildSl e l z ps=>simp only[sd,step,z06b (fun x q=>hx x q)]
 case mkFn f l=>simp only[sd,step,zzu (l:=l) (fun x q=>hx x q)]
 case call f l=>simp only[sd,step,zzu (l:=l) (fun x q=>hx x q)]
 case callv f l=>simp only[sd,step,hx f (by simp[AOp.opds]),zzu (l:=l) (fun x q=>hx x (by simp[AOp.opds,q]))]
 case invoke m r l=>simp only[sd,step,hx r (by simp[AOp.opds]),zzu (l:=l) (fun x q=>hx x (by simp[AOp.opds,q]))]
 case slice e x lo hi mx =>
  have a1:lo.map (opd e1)=lo.map (opd e2):=by cases lo with
   | none=>rfl
   | some y=>simp only[Option.map_some,hx y (by simp[AOp.opds])]
  have a2:hi.map (opd e1)=hi.map (opd e2):=by cases hi with
   | none=>rfl
   | some y=>simp only[Option.map_some,hx y (by simp[AOp.opds])]
  have a3:mx.map (opd e1)=mx.map (opd e2):=by cases mx with
   | none=>rfl
   | some y=>simp only[Option.map_some,hx y (by simp[AOp.opds])]
  simp only[sd,step,hx x (by simp[AOp.opds]),a1,a2,a3]
 case strSlice x lo hi =>
  have a1:lo.map (opd e1)=lo.map (opd e2):=by cases lo with
   | none=>rfl
   | some y=>simp only[Option.map_some,hx y (by simp[AOp.opds])]
  have a2:hi.map (opd e1)=hi.map (opd e2):=by cases hi with
   | none=>rfl
   | some y=>simp only[Option.map_some,hx y (by simp[AOp.opds])]
  simp only[sd,step,hx x (by simp[AOp.opds]),a1,a2]
 all_goals
  simp only[AOp.opds,List.mem_cons,List.not_mem_nil,or_false,forall_eq_or_imp,forall_eq] at hx
  simp only[sd,step,hx]
theorem z0hu {A:AOp}{e1 e2:List V} (h:Like A.tmps e1 e2) (hp:H):A.again e1 hp=A.again e2 hp:=by
 have hx:∀x∈A.opds,opd e1 x=opd e2 x:=fun x=>z0ek h
 cases A <;> (try rfl) <;>
  (simp only[AOp.opds,List.mem_cons,List.not_mem_nil,or_false,forall_eq_or_imp,forall_eq] at hx; simp only[AOp.again,hx])
def PureF (f:H->Option (V × H)):Prop:=∀h h0,f h=((f h0).map (·.1)).bind fun v=>some (v,h)
theorem PureF.val (v:V):PureF fun h=>some (v,h):=fun _ _=>rfl
theorem PureF.no:PureF fun _=>none:=fun _ _=>rfl
theorem PureF.bind {α:Type} (o:Option α) {f:α->H->Option (V × H)} (hf:∀x,PureF (f x)):PureF fun h=>o.bind fun x=>f x h:=fun h h0=>by
 cases o with
 | none=>rfl
 | some x=>exact hf x h h0
theorem z0kx {A:AOp}{env:List V} (hp:A.cls=.pure):PureF (sd M A env):=by
 cases A <;> simp[AOp.cls] at hp
 case extract x i =>
  show PureF fun h=>match opd env x with
   | .tup vs=>(vs[i]?).bind fun v=>some (v,h)
   | _=>none
  cases opd env x <;> first | exact PureF.no | exact PureF.bind _ fun v=>PureF.val v
 case cat x y =>
  show PureF fun h=>(asS (opd env x)).bind fun a=>(asS (opd env y)).bind fun b=>match decide (a.size+b.size<=9223372036854775807) with
   | true=>some (.str (a ++ b),h)
   | false=>none
  refine PureF.bind _ fun a=>PureF.bind _ fun b => ?_
  cases decide (a.size+b.size<=9223372036854775807)
  ·exact PureF.no
  ·exact PureF.val _
 all_goals first
  | exact PureF.val _
  | exact PureF.bind _ fun _=>PureF.val _
  | exact PureF.bind _ fun _=>PureF.bind _ fun _=>PureF.val _
  | exact PureF.bind _ fun _=>PureF.bind _ fun _=>PureF.bind _ fun _=>PureF.val _
theorem z0ad {A:AOp}{env:List V}{h h':H}{v:V} (hp:A.cls=.pure) (hs:sd M A env h=some (v,h')):h'=h/\∀h2,sd M A env h2=some (v,h2):=by
 have hf:=z0kx (M:=M) (env:=env) hp
 have h1:=hf h h
 rw[hs] at h1
 simp only[Option.map_some,Option.bind_some,Option.some.injEq,Prod.mk.injEq,true_and] at h1
 refine⟨h1,fun h2 => ?_⟩
 have h3:=hf h2 h
 rw[hs] at h3
 simpa using h3
theorem z0l2 {h h2:H} (hh:∀b x,h.get b=some x->h2.get b=some x) {x u:V} (hl:h.ld1 x=some u):h2.ld1 x=some u:=by
 unfold H.ld1 at hl ⊢
 cases x <;> simp only at hl ⊢ <;> (try cases hl)
 rename_i b o
 cases hg:h.get b with
 | none=>rw[hg] at hl; cases hl
 | some y=>rw[hg] at hl; rw[hh b y hg]; exact hl
theorem z0en {h h2:H} (hh:∀b x,h.get b=some x->h2.get b=some x) {b o n:Nat}{u:List V} (hl:h.ldc b o n=some u):h2.ldc b o n=some u:=by
 unfold H.ldc at hl ⊢
 cases hq:Nat.beq n 0 with
 | true=>rw[hq] at hl; exact hl
 | false =>
  rw[hq] at hl
  cases hg:h.get b with
  | none=>rw[hg] at hl; cases hl
  | some y=>rw[hg] at hl; rw[hh b y hg]; exact hl
theorem z06w {h h2:H} (hh:∀b x,h.get b=some x->h2.get b=some x) {m:V}{u:List (V × V)} (hl:h.entries m=some u):h2.entries m=some u:=by
 unfold H.entries at hl ⊢
 cases m <;> simp only at hl ⊢ <;> first | exact hl | cases hl | skip
 rename_i r
 cases hg:h.get r with
 | none=>rw[hg] at hl; cases hl
 | some y=>rw[hg] at hl; rw[hh r y hg]; exact hl
theorem z0hr {A:AOp}{env:List V}{h h2:H}{u:V} (hh:∀b x,h.get b=some x->h2.get b=some x) (hl:A.again env h=some u):A.again env h2=some u:=by
 cases A <;> simp only[AOp.again] at hl ⊢ <;> (try cases hl)
 case load1 a=>exact z0l2 hh hl
 case loadN n a =>
  unfold H.ldN at hl ⊢
  cases hx:opd env a <;> rw[hx] at hl <;> simp only at hl ⊢ <;> (try cases hl)
  rename_i b o
  cases hq:h.ldc b o n with
  | none=>rw[hq] at hl; cases hl
  | some l=>rw[hq] at hl; rw[z0en hh hq]; exact hl
 case lookup c z ok m k =>
  unfold H.look at hl ⊢
  split at hl
  ·cases hl
  ·cases hq:h.entries (opd env m) with
   | none=>rw[hq] at hl; cases hl
   | some es=>rw[hq] at hl; rw[z06w hh hq]; exact hl
 case lenMap x =>
  cases hq:h.entries (opd env x) with
  | none=>rw[hq] at hl; cases hl
  | some es=>rw[hq] at hl; rw[z06w hh hq]; exact hl
theorem z0h3 {A:AOp}{env:List V}{h h':H}{v:V} (hp:z001 A=true) (hs:sd M A env h=some (v,h')):h'=h/\A.again env h=some v:=by
 cases A <;> simp[z001] at hp
 all_goals
  simp only[sd,step,Option.bind_eq_some_iff,Option.some.injEq,Prod.mk.injEq] at hs
  obtain⟨u,hu,rfl,rfl⟩:=hs
  refine⟨rfl,?_⟩
  simp only[AOp.again]
  first | exact hu | rw[hu]
theorem z091 {A:AOp}{env:List V}{h:H}{v:V} (hp:z001 A=true) (hs:A.again env h=some v):sd M A env h=some (v,h):=by
 cases A <;> simp[z001] at hp
 case lenMap x =>
  simp only[AOp.again] at hs
  split at hs
  ·rename_i es he; cases hs; simp only[sd,step,he,Option.bind_some]
  ·cases hs
 all_goals
  simp only[AOp.again] at hs
  simp only[sd,step,hs,Option.bind_some]
theorem z0a5 {A:AOp}{env:List V}{h h':H}{v:V} (hp:A.cls=.read) (hs:sd M A env h=some (v,h')):h'=h/\∀h2,(∀b x,h.get b=some x->h2.get b=some x)->sd M A env h2=some (v,h2):=by
 by_cases hr:z001 A=true
 ·obtain⟨rfl,ha⟩:=z0h3 hr hs
  exact⟨rfl,fun h2 hh=>z091 hr (z0hr hh ha)⟩
 ·cases A <;> simp[AOp.cls] at hp <;> simp[z001] at hr
  rename_i x
  simp only[sd,step,Option.bind_eq_some_iff,Option.some.injEq,Prod.mk.injEq] at hs
  obtain⟨l,hl,r,hr,rfl,rfl⟩:=hs
  refine⟨rfl,fun h2 hh => ?_⟩
  have:h2.slc 1 (opd env x)=some l:=by
   unfold H.slc at hl ⊢
   cases hx:opd env x <;> rw[hx] at hl <;> simp only at hl ⊢ <;> first | exact hl | cases hl | exact z0en hh hl
  simp only[sd,step,this,hr,Option.bind_some]
theorem z0e5 {A:AOp}{env:List V}{h h':H}{v:V} (hp:A.cls=.alloc) (hs:sd M A env h=some (v,h')) :
  ∃blk,blk.wr=true/\h'=h.new blk/\∀h2,h2.next=h.next->sd M A env h2=some (v,h2.new blk):=by
 cases A <;> simp[AOp.cls] at hp
 case box x =>
  simp only[sd,step,Option.bind_eq_some_iff,Option.some.injEq,Prod.mk.injEq] at hs
  obtain⟨cs,hcs,rfl,rfl⟩:=hs
  exact⟨_,rfl,rfl,fun h2 hn=>by simp only[sd,step,hcs,Option.bind_some,hn]⟩
 case alloc cs =>
  simp only[sd,step,Option.some.injEq,Prod.mk.injEq] at hs
  obtain⟨rfl,rfl⟩:=hs
  exact⟨_,rfl,rfl,fun h2 hn=>by simp only[sd,step,hn]⟩
 case buildSl e l z ps =>
  simp only[sd,step] at hs
  split at hs
  ·rename_i hb
   simp only[Option.bind_eq_some_iff,Option.some.injEq,Prod.mk.injEq] at hs
   obtain⟨cs,hcs,rfl,rfl⟩:=hs
   exact⟨_,rfl,rfl,fun h2 hn=>by simp only[sd,step,hb,hcs,Option.bind_some,hn]⟩
  ·cases hs
 case mkMap =>
  simp only[sd,step,Option.some.injEq,Prod.mk.injEq] at hs
  obtain⟨rfl,rfl⟩:=hs
  exact⟨_,rfl,rfl,fun h2 hn=>by simp only[sd,step,hn]⟩
 case mkSl e b z l c =>
  simp only[sd,step,Option.bind_eq_some_iff,Option.some.injEq,Prod.mk.injEq] at hs
  obtain⟨ln,hl,cp,hc,p,hp,rfl,rfl⟩:=hs
  unfold H.mkSl at hp
  split at hp
  ·rename_i hb
   cases hp
   exact⟨_,rfl,rfl,fun h2 hn=>by simp only[sd,step,hl,hc,Option.bind_some,H.mkSl,hb,hn]⟩
  ·cases hp
def z0cw (call:Nat->List V->H->Option (V × H)):Prop:=∀f args h v h',call f args h=some (v,h')->∀b,h'.next<=b->h.get b=none->h'.get b=none
theorem z0aj {h h':H}{b o:Nat}{vs:List V} (hs:h.stc b o vs=some h') {c:Nat} (hc:h.get c=none):h'.get c=none:=by
 unfold H.stc at hs
 split at hs
 ·rename_i hg
  split at hs
  ·cases hs
  ·cases hs
   rw[H.get_put]
   split
   ·rename_i e; subst e; rw[hg] at hc; cases hc
   ·exact hc
 ·cases hs
theorem z07j {h:H}{x:Blk}{c:Nat} (hn:h.next+1<=c) (hc:h.get c=none):(h.new x).get c=none:=by
 rw[H.get_new,if_neg (by omega)]; exact hc
theorem z0a4 {h:H}{x:Option Blk}{b c:Nat} (hb:∃y,h.get b=some y) (hc:h.get c=none):(h.put b x).get c=none:=by
 obtain⟨y,hy⟩:=hb
 rw[H.get_put]
 split
 ·rename_i e; subst e; rw[hy] at hc; cases hc
 ·exact hc
theorem z0jo (hD:z0cw M.call) {A:AOp}{env:List V}{h h':H}{v:V} (hs:sd M A env h=some (v,h')) {b:Nat} (hb:h'.next<=b) (hg:h.get b=none):h'.get b=none:=by
 cases hcl:A.cls with
 | pure=>obtain⟨rfl,_⟩:=z0ad hcl hs; exact hg
 | read=>obtain⟨rfl,_⟩:=z0a5 hcl hs; exact hg
 | alloc=>obtain⟨blk,_,rfl,_⟩:=z0e5 hcl hs; exact z07j (by simpa using hb) hg
 | eff =>
  cases A <;> simp[AOp.cls] at hcl
  case store n a x =>
   simp only[sd,step,Option.bind_eq_some_iff,Option.some.injEq,Prod.mk.injEq] at hs
   obtain⟨h1,hst,_,rfl⟩:=hs
   unfold H.st at hst
   split at hst
   ·split at hst
    ·exact z0aj hst hg
    ·cases hst
   ·cases hst
  case mapSet c m k x =>
   simp only[sd,step,Option.bind_eq_some_iff,Option.some.injEq,Prod.mk.injEq] at hs
   obtain⟨h1,hst,_,rfl⟩:=hs
   unfold H.mapSet at hst
   split at hst
   ·split at hst
    ·rename_i hq
     split at hst
     ·cases hst; exact z0a4 ⟨_,hq⟩ hg
     ·cases hst
    ·cases hst
   ·cases hst
  case mapDel c m k =>
   simp only[sd,step,Option.bind_eq_some_iff,Option.some.injEq,Prod.mk.injEq] at hs
   obtain⟨h1,hst,_,rfl⟩:=hs
   unfold H.mapDel at hst
   split at hst
   ·cases hst; exact hg
   ·split at hst
    ·rename_i hq
     split at hst
     ·cases hst; exact z0a4 ⟨_,hq⟩ hg
     ·cases hst
    ·cases hst
   ·cases hst
  case append e bb s x =>
   simp only[sd,step,Option.bind_eq_some_iff,Option.some.injEq,Prod.mk.injEq] at hs
   obtain⟨p,hp,_,rfl⟩:=hs
   unfold H.append at hp
   split at hp
   ·split at hp
    ·cases hp
    ·split at hp
     ·split at hp
      ·split at hp
       ·rename_i hst; cases hp; exact z0aj hst hg
       ·cases hp
      ·cases hp; exact z07j (by simpa using hb) hg
     ·split at hp
      ·rename_i hq
       split at hp
       ·cases hp
        have hq2:=z0a4 (x:=none) ⟨_,hq⟩ hg
        exact z07j (by simpa using hb) hq2
       ·cases hp
      ·cases hp
     ·split at hp
      ·cases hp; exact hg
      ·cases hp; exact z07j (by simpa using hb) hg
   ·cases hp
  case copy e s x =>
   simp only[sd,step,Option.bind_eq_some_iff,Option.some.injEq,Prod.mk.injEq] at hs
   obtain⟨p,hp,_,rfl⟩:=hs
   unfold H.copy at hp
   split at hp
   ·split at hp
    ·cases hp; exact hg
    ·split at hp
     ·split at hp
      ·split at hp
       ·rename_i hst; cases hp; exact z0aj hst hg
       ·cases hp
      ·cases hp
     ·cases hp
   ·cases hp
  case call f as =>
   simp only[sd,step,Option.bind_eq_some_iff,Option.some.injEq,Prod.mk.injEq] at hs
   obtain⟨p,hp,_,rfl⟩:=hs
   exact hD _ _ _ _ _ hp b hb hg
  case callv f as =>
   simp only[sd,step] at hs
   split at hs
   ·simp only[Option.bind_eq_some_iff,Option.some.injEq,Prod.mk.injEq] at hs
    obtain⟨p,hp,_,rfl⟩:=hs
    exact hD _ _ _ _ _ hp b hb hg
   ·cases hs
  case invoke m r as =>
   simp only[sd,step] at hs
   split at hs
   ·simp only[Option.bind_eq_some_iff,Option.some.injEq,Prod.mk.injEq] at hs
    obtain⟨_,_,p,hp,_,rfl⟩:=hs
    exact hD _ _ _ _ _ hp b hb hg
   ·cases hs
  case cloneM x =>
   simp only[sd,step,Option.bind_eq_some_iff,Option.some.injEq,Prod.mk.injEq] at hs
   obtain⟨p,hp,_,rfl⟩:=hs
   unfold H.cloneM at hp
   split at hp
   ·split at hp
    ·cases hp
     have hb':h.next+1<=b:=hb
     show(h.new _).get b=none
     rw[H.get_new,if_neg (by omega)]; exact hg
    ·cases hp
   ·cases hp
end
section
variable {ops:Array Oper}
inductive Reach (ops:Array Oper):Nat->Nat->Prop where
 | edge {j:Nat}{o:Oper}{e:Go.Edge}:ops[j]?=some o->e∈o.after->Go.Region.binds .any e=true->Reach ops j e.on
 | trans {j i:Nat}{o:Oper}{e:Go.Edge}:ops[j]?=some o->e∈o.after->Go.Region.binds .any e=true->Reach ops e.on i->Reach ops j i
def rowF (acc:Array Nat) (o:Oper):Nat:=o.after.foldl (fun s e=>if Go.Region.binds .any e then s ||| 2 ^ e.on ||| acc.getD e.on 0 else s) 0
theorem z0im (acc:Array Nat) (o:Oper) (i:Nat) (h:(rowF acc o).testBit i=true):∃e∈o.after,Go.Region.binds .any e=true/\(e.on=i\/(acc.getD e.on 0).testBit i=true):=by
 have key:∀(l:List Go.Edge) (s:Nat),(l.foldl (fun s e=>if Go.Region.binds .any e then s ||| 2 ^ e.on ||| acc.getD e.on 0 else s) s).testBit i=true->s.testBit i=true\/∃e∈l,Go.Region.binds .any e=true/\(e.on=i\/(acc.getD e.on 0).testBit i=true):=by
  intro l
  induction l with
  | nil=>intro s hs; exact .inl hs
  | cons e l ih =>
   intro s hs
   rw[List.foldl_cons] at hs
   rcases ih _ hs with h1 | ⟨e',he',h2⟩
   ·split at h1
    ·rename_i hb
     rw[Nat.testBit_or,Nat.testBit_or] at h1
     simp only[Bool.or_eq_true] at h1
     rcases h1 with (h1 | h1) | h1
     ·exact .inl h1
     ·rw[Nat.testBit_two_pow] at h1
      exact .inr ⟨e,by simp,hb,.inl (by simpa using h1)⟩
     ·exact .inr ⟨e,by simp,hb,.inr h1⟩
    ·exact .inl h1
   ·exact .inr ⟨e',by simp[he'],h2⟩
 unfold rowF at h
 rw[<-Array.foldl_toList] at h
 rcases key _ _ h with h1 | ⟨e,he,h2⟩
 ·simp at h1
 ·exact⟨e,by simpa using he,h2⟩
theorem z068 {i j:Nat} (h:zgt (Go.Region.before ops).toList i j=true):Reach ops j i:=by
 have key:∀(l:List Oper) (acc:Array Nat),ops.toList.drop acc.size=l->(∀j i,(acc.getD j 0).testBit i=true->Reach ops j i) ->
   ∀j i,((l.foldl (fun acc o=>acc.push (rowF acc o)) acc).getD j 0).testBit i=true->Reach ops j i:=by
  intro l
  induction l with
  | nil=>intro acc _ hi; exact hi
  | cons o l ih =>
   intro acc hd hi
   rw[List.foldl_cons]
   have ho:ops[acc.size]?=some o:=by
    have:(ops.toList.drop acc.size)[0]?=some o:=by rw[hd]; rfl
    rw[List.getElem?_drop] at this
    simpa using this
   refine ih _ ?_ ?_
   ·rw[Array.size_push,<-List.drop_drop,hd]; rfl
   ·intro j i hji
    rw[Array.getD_eq_getD_getElem?,Array.getElem?_push] at hji
    split at hji
    ·rename_i e; subst e
     obtain⟨e,he,hb,h2⟩:=z0im acc o i hji
     rcases h2 with rfl | h2
     ·exact .edge ho he hb
     ·exact .trans ho he hb (hi _ _ h2)
    ·refine hi j i ?_
     rw[Array.getD_eq_getD_getElem?]; exact hji
 unfold zgt at h
 have hB:Go.Region.before ops=ops.toList.foldl (fun acc o=>acc.push (rowF acc o)) #[]:=by
  unfold Go.Region.before
  rw[<-Array.foldl_toList]
  rfl
 refine key ops.toList #[] rfl (fun j i hji=>by simp at hji) j i ?_
 rw[<-hB]
 rw[List.getD_eq_getElem?_getD] at h
 rw[Array.getD_eq_getD_getElem?]
 simpa using h
def z0iq (ops:Array Oper) (L:Nat->Prop):Prop:=∀j o,L j->ops[j]?=some o->∀e∈o.after,Go.Region.binds .any e=true->L e.on
theorem z06z {L:Nat->Prop} (hL:z0iq ops L) {j i:Nat} (h:Reach ops j i) (hj:∀o,ops[j]?=some o->∀e∈o.after,Go.Region.binds .any e=true->L e.on):L i:=by
 induction h with
 | edge ho he hb=>exact hj _ ho _ he hb
 | trans ho he hb _ ih=>exact ih fun o' ho' e' he' hb'=>hL _ _ (hj _ ho _ he hb) ho' e' he' hb'
end
end Wm
