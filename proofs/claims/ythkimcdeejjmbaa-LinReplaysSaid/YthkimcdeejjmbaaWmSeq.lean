/- Operations one behind the other: my machine's regions as steps, and a region that draws no order. -/
import Derived.Test.YthkimcdeejjmbaaWmStep
import Derived.Orders
set_option linter.all false
namespace Wm
open Go (Value Addr World Obj Program IntKind TypeId Oper Operand Act Exit Sem TypeDesc)
section
variable {M:Env}
theorem z07f {R:Type} (op:AOp) (env:List V) (h:H) (k:V->H->Option R):step M op env h k=(sd M op env h).bind fun p=>k p.1 p.2:=by
 cases op <;> simp only[sd,step,Option.bind_assoc,Option.bind_some] <;> first
  | rfl
  | (split <;> first | rfl | simp only[Option.bind_assoc,Option.bind_some])
  | (congr 1; funext x; first | rfl | (split <;> rfl) | (congr 1; funext y; first | rfl | (split <;> rfl)))
def zzq (call:Nat->List V->H->Option (V × H)):Prop:=∀f args h v h',call f args h=some (v,h')->h.next<=h'.next
theorem z08d {h h':H}{b o:Nat}{vs:List V} (hs:h.stc b o vs=some h'):h'.next=h.next:=by
 unfold H.stc at hs
 split at hs
 ·split at hs
  ·cases hs
  ·cases hs; rfl
 ·cases hs
theorem z0fj {h:H}{e b:Nat}{s x:V}{p:V × H} (hs:h.append e b s x=some p):h.next<=p.2.next:=by
 unfold H.append at hs
 split at hs
 ·split at hs
  ·cases hs
  ·split at hs
   ·split at hs
    ·split at hs
     ·rename_i hst; cases hs; exact Nat.le_of_eq (z08d hst).symm
     ·cases hs
    ·cases hs; simp
   ·split at hs
    ·split at hs
     ·cases hs; simp
     ·cases hs
    ·cases hs
   ·split at hs
    ·cases hs; simp
    ·cases hs; simp
 ·cases hs
theorem z0ik {h:H}{e:Nat}{s x:V}{p:V × H} (hs:h.copy e s x=some p):h.next<=p.2.next:=by
 unfold H.copy at hs
 split at hs
 ·split at hs
  ·cases hs; simp
  ·split at hs
   ·split at hs
    ·split at hs
     ·rename_i hst; cases hs; exact Nat.le_of_eq (z08d hst).symm
     ·cases hs
    ·cases hs
   ·cases hs
 ·cases hs
theorem z0jy {h:H}{e b:Nat}{z:List V}{l c:Int}{p:V × H} (hs:h.mkSl e b z l c=some p):p.2.next=h.next+1:=by
 unfold H.mkSl at hs
 split at hs
 ·cases hs; simp
 ·cases hs
theorem z0av (hN:zzq M.call) {op:AOp}{env:List V}{h h':H}{v:V} (hs:sd M op env h=some (v,h')):h.next<=h'.next:=by
  cases op
  case store n a x =>
    simp only[sd,step,Option.bind_eq_some_iff,Option.some.injEq,Prod.mk.injEq] at hs
    obtain⟨h1,hst,_,rfl⟩:=hs
    unfold H.st at hst
    split at hst
    · split at hst
      · exact Nat.le_of_eq (z08d hst).symm
      · cases hst
    · cases hst
  case mapSet c m k x =>
    simp only[sd,step,Option.bind_eq_some_iff,Option.some.injEq,Prod.mk.injEq] at hs
    obtain⟨h1,hst,_,rfl⟩:=hs
    unfold H.mapSet at hst
    split at hst
    · split at hst
      · split at hst
        · cases hst; simp
        · cases hst
      · cases hst
    · cases hst
  case mapDel c m k =>
    simp only[sd,step,Option.bind_eq_some_iff,Option.some.injEq,Prod.mk.injEq] at hs
    obtain⟨h1,hst,_,rfl⟩:=hs
    unfold H.mapDel at hst
    split at hst
    · cases hst; simp
    · split at hst
      · split at hst
        · cases hst; simp
        · cases hst
      · cases hst
    · cases hst
  case append e b s x =>
    simp only[sd,step,Option.bind_eq_some_iff,Option.some.injEq,Prod.mk.injEq] at hs
    obtain⟨p,hp,_,rfl⟩:=hs
    exact z0fj hp
  case copy e s x =>
    simp only[sd,step,Option.bind_eq_some_iff,Option.some.injEq,Prod.mk.injEq] at hs
    obtain⟨p,hp,_,rfl⟩:=hs
    exact z0ik hp
  case mkSl e b z l c =>
    simp only[sd,step,Option.bind_eq_some_iff,Option.some.injEq,Prod.mk.injEq] at hs
    obtain⟨_,_,_,_,p,hp,_,rfl⟩:=hs
    have:=z0jy hp
    omega
  case call f as =>
    simp only[sd,step,Option.bind_eq_some_iff,Option.some.injEq,Prod.mk.injEq] at hs
    obtain⟨p,hp,_,rfl⟩:=hs
    exact hN _ _ _ _ _ hp
  case callv f as =>
    simp only[sd,step] at hs
    split at hs
    · simp only[Option.bind_eq_some_iff,Option.some.injEq,Prod.mk.injEq] at hs
      obtain⟨p,hp,_,rfl⟩:=hs
      exact hN _ _ _ _ _ hp
    · cases hs
  case invoke m r as =>
    simp only[sd,step] at hs
    split at hs
    · simp only[Option.bind_eq_some_iff,Option.some.injEq,Prod.mk.injEq] at hs
      obtain⟨_,_,p,hp,_,rfl⟩:=hs
      exact hN _ _ _ _ _ hp
    · cases hs
  case cloneM x =>
    simp only[sd,step,Option.bind_eq_some_iff,Option.some.injEq,Prod.mk.injEq] at hs
    obtain⟨p,hp,_,rfl⟩:=hs
    unfold H.cloneM at hp
    split at hp
    · split at hp
      · cases hp; simp
      · cases hp
    · cases hp
  all_goals
    simp only[sd,step] at hs
    first
      | (simp only[Option.bind_eq_some_iff,Option.some.injEq,Prod.mk.injEq] at hs
         first
          | (obtain⟨_,rfl⟩:=hs; simp)
          | (obtain⟨_,_,_,rfl⟩:=hs; simp)
          | (obtain⟨_,_,_,_,_,rfl⟩:=hs; simp)
          | (obtain⟨_,_,_,_,_,_,_,rfl⟩:=hs; simp))
      | (split at hs
         · simp only[Option.bind_eq_some_iff,Option.some.injEq,Prod.mk.injEq] at hs
           obtain⟨_,_,_,rfl⟩:=hs; simp
         · cases hs)
      | (simp only[Option.bind_eq_some_iff] at hs
         obtain⟨_,_,_,_,hs⟩:=hs
         split at hs
         · cases hs; simp
         · cases hs)
      | skip
def zd4 (env:List V):Option (Nat × Bool)->Option Bool
 | none=>some true
 | some (t,w)=>match env.getD t .undef with
  | .bool b=>some (b == w)
  | .tup []=>some false
  | _=>none
def ex1 (M:Env) (g:Option (Nat × Bool)) (i:AI) (env:List V) (h:H):Option (List V × H) :=
 match zd4 env g with
 | some true=>(sd M i.op env h).bind fun p=>match i.chk.all (fun c=>c.ok env p.2) with
  | true=>some (put env i.dst p.1,p.2)
  | false=>none
 | some false=>some (put env i.dst .undef,h)
 | none=>none
def zkd (M:Env):List (Option (Nat × Bool) × AI)->List V->H->Option (List V × H)
 | [],env,h=>some (env,h)
 | (g,i) :: l,env,h=>(ex1 M g i env h).bind fun p=>zkd M l p.1 p.2
theorem z0dc {R:Type}{env:List V}{h:H}{k:Option R}{r:R}:∀ {l:List Chk},chks env h k l=some r->l.all (fun c=>c.ok env h)=true/\k=some r
 | [],hh=>⟨rfl,hh⟩
 | c :: l,hh=>by
  simp only[chks] at hh
  split at hh
  ·rename_i hc
   obtain⟨h1,h2⟩:=z0dc hh
   exact⟨by simp[hc,h1],h2⟩
  ·cases hh
theorem zn3 {R:Type}{i:AI}{env:List V}{h:H}{k:List V->H->Option R}{r:R} (hh:zmj M i env h k=some r) :
  ∃v h1,sd M i.op env h=some (v,h1)/\i.chk.all (fun c=>c.ok env h1)=true/\k (put env i.dst v) h1=some r:=by
 unfold zmj at hh
 rw[z07f] at hh
 simp only[Option.bind_eq_some_iff] at hh
 obtain⟨⟨v,h1⟩,h2,h3⟩:=hh
 obtain⟨h4,h5⟩:=z0dc h3
 exact⟨v,h1,h2,h4,h5⟩
theorem znn {env:List V}{g:Nat}{v:V} (h:env.getD g .undef=v) (hv:v≠.undef):env.set g v=env:=by
 have hg:g<env.length:=by
  rcases Nat.lt_or_ge g env.length with q | q
  ·exact q
  ·exact absurd (by rw[<-h]; simp[List.getD,List.getElem?_eq_none q]) hv
 apply List.ext_getElem?
 intro i
 rw[List.getElem?_set]
 by_cases hi:g=i
 ·subst hi
  rw[if_pos rfl,if_pos hg,<-h]
  simp[List.getD,hg]
 ·rw[if_neg hi]
theorem z00m {env:List V}{d:Option Nat}{v:V}{g:Nat} (h:z03b d [g]=false):(put env d v).getD g .undef=env.getD g .undef:=by
 cases d with
 | none=>rfl
 | some d =>
  have hne:d≠g:=by simpa [z03b] using h
  simp[put,List.getD,hne]
theorem zvf {g:Option (Nat × Bool)}{i:AI}{env:List V}{h h1:H}{v:V} (hw:zd4 env g=some true) (h2:sd M i.op env h=some (v,h1)) (h3:i.chk.all (fun c=>c.ok env h1)=true):ex1 M g i env h=some (put env i.dst v,h1):=by
 simp only[ex1,hw,h2,Option.bind_some,h3]
theorem zn7 {g:Option (Nat × Bool)}{i:AI}{env:List V}{h:H} (hw:zd4 env g=some false):ex1 M g i env h=some (put env i.dst .undef,h):=by
 simp only[ex1,hw]
theorem zfm {env:List V}{g:Nat}{w b:Bool} (hg:env.getD g .undef=.bool b):zd4 env (some (g,w))=some (b == w):=by
 simp only[zd4,hg]
theorem z07v {env:List V}{g:Nat}{w:Bool} (hg:env.getD g .undef=.tup []):zd4 env (some (g,w))=some false:=by
 simp only[zd4,hg]
theorem z0ed {R:Type}{g:Option (Nat × Bool)}{i:AI}{r:AIs}{env:List V}{h:H}{k:List V->H->Option R}{res:R} (hh:z1y M (addI g i r) env h k=some res) :
  ∃env1 h1,ex1 M g i env h=some (env1,h1)/\z1y M r env1 h1 k=some res:=by
 cases g with
 | none =>
  have:zmj M i env h (fun env h=>z1y M r env h k)=some res:=by
   cases r <;> exact hh
  obtain⟨v,h1,h2,h3,h4⟩:=zn3 this
  exact⟨_,_,zvf rfl h2 h3,h4⟩
 | some gw =>
  obtain⟨g,w⟩:=gw
  -- one alone in its guard
  have lone:∀rest:AIs,z1y M (.grd g w [i] rest) env h k=some res->∃env1 h1,ex1 M (some (g,w)) i env h=some (env1,h1)/\z1y M rest env1 h1 k=some res:=by
   intro rest hh
   simp only[z1y] at hh
   split at hh
   ·rename_i hg
    rw[znn hg (by intro e; cases e)] at hh
    split at hh
    ·simp only[zfy] at hh
     obtain⟨v,h1,h2,h3,h4⟩:=zn3 hh
     exact⟨_,_,zvf (zfm hg) h2 h3,h4⟩
    ·exact⟨_,_,zn7 (zfm hg),hh⟩
   ·rename_i hg
    rw[znn hg (by intro e; cases e)] at hh
    split at hh
    ·simp only[zfy] at hh
     obtain⟨v,h1,h2,h3,h4⟩:=zn3 hh
     exact⟨_,_,zvf (zfm hg) h2 h3,h4⟩
    ·exact⟨_,_,zn7 (zfm hg),hh⟩
   ·rename_i hg
    exact⟨_,_,zn7 (z07v hg),hh⟩
   ·cases hh
  cases r with
  | nil=>exact lone _ hh
  | op j rest=>exact lone _ hh
  | grd g' w' body rest =>
   simp only[addI] at hh
   split at hh
   ·rename_i hb
    simp only[Bool.and_eq_true,Bool.not_eq_true'] at hb
    obtain⟨⟨hg1,hw1⟩,hm⟩:=hb
    have hg1:=Nat.eq_of_beq_eq_true hg1
    have hw1:w=w':=by simpa using hw1
    subst hg1; subst hw1
    simp only[z1y] at hh
    split at hh
    ·rename_i hg
     rw[znn hg (by intro e; cases e)] at hh
     split at hh
     ·simp only[zfy] at hh
      obtain⟨v,h1,h2,h3,h4⟩:=zn3 hh
      refine⟨_,_,zvf (zfm hg) h2 h3,?_⟩
      have hg':(put env i.dst v).getD g .undef=.bool true:=by rw[z00m hm]; exact hg
      simp only[z1y,hg',znn hg' (by intro e; cases e)]
      exact h4
     ·refine⟨_,_,zn7 (zfm hg),?_⟩
      have hg':(put env i.dst .undef).getD g .undef=.bool true:=by rw[z00m hm]; exact hg
      simp only[z1y,hg',znn hg' (by intro e; cases e)]
      exact hh
    ·rename_i hg
     rw[znn hg (by intro e; cases e)] at hh
     split at hh
     ·simp only[zfy] at hh
      obtain⟨v,h1,h2,h3,h4⟩:=zn3 hh
      refine⟨_,_,zvf (zfm hg) h2 h3,?_⟩
      have hg':(put env i.dst v).getD g .undef=.bool false:=by rw[z00m hm]; exact hg
      simp only[z1y,hg',znn hg' (by intro e; cases e)]
      exact h4
     ·refine⟨_,_,zn7 (zfm hg),?_⟩
      have hg':(put env i.dst .undef).getD g .undef=.bool false:=by rw[z00m hm]; exact hg
      simp only[z1y,hg',znn hg' (by intro e; cases e)]
      exact hh
    ·rename_i hg
     refine⟨_,_,zn7 (z07v hg),?_⟩
     have hg':(put env i.dst .undef).getD g .undef=.tup []:=by rw[z00m hm]; exact hg
     simp only[z1y,hg']
     exact hh
    ·cases hh
   ·exact lone _ hh
def zpg (ops:List Oper) (bs:List Nat) (as:List AOp) (draw:Bool):List Nat->List Nat->Option (List (Option (Nat × Bool) × AI))
 | _,[]=>some []
 | done,i :: l=>match aiOf ops bs as draw done i,zpg ops bs as draw (i :: done) l with
  | some a,some r=>match (ops[i]?).bind (·.guard) with
   | none=>some ((none,a) :: r)
   | some (j,w)=>match (ops[j]?).bind (·.dst) with
    | some t=>some ((some (t,w),a) :: r)
    | none=>none
  | _,_=>none
theorem z0ec {R:Type}{ops:List Oper}{bs:List Nat}{as:List AOp}{draw:Bool}{k:List V->H->Option R}{res:R}:∀ {l done:List Nat}{r:AIs}{env:List V}{h:H},cAIs ops bs as draw done l=some r->z1y M r env h k=some res ->
  ∃ls env' h',zpg ops bs as draw done l=some ls/\zkd M ls env h=some (env',h')/\k env' h'=some res:=by
 intro l
 induction l with
 | nil=>intro done r env h hc hh; simp[cAIs] at hc; subst hc; exact⟨[],env,h,rfl,rfl,hh⟩
 | cons i l ih =>
  intro done r env h hc hh
  simp only[cAIs] at hc
  split at hc
  ·rename_i a r' ha hr
   split at hc
   ·rename_i hg
    cases hc
    obtain⟨env1,h1,h2,h3⟩:=z0ed hh
    obtain⟨ls,env',h',h4,h5,h6⟩:=ih hr h3
    exact⟨(none,a) :: ls,env',h',by simp[zpg,ha,h4,hg],by simp[zkd,h2,h5],h6⟩
   ·rename_i j w hg
    split at hc
    ·rename_i t ht
     cases hc
     obtain⟨env1,h1,h2,h3⟩:=z0ed hh
     obtain⟨ls,env',h',h4,h5,h6⟩:=ih hr h3
     exact⟨(some (t,w),a) :: ls,env',h',by simp[zpg,ha,h4,hg,ht],by simp[zkd,h2,h5],h6⟩
    ·cases hc
  ·cases hc
theorem z0es (hN:zzq M.call) {g:Option (Nat × Bool)}{i:AI}{env env':List V}{h h':H} (hh:ex1 M g i env h=some (env',h')):h.next<=h'.next:=by
 unfold ex1 at hh
 split at hh
 ·simp only[Option.bind_eq_some_iff] at hh
  obtain⟨⟨v,h1⟩,h2,h3⟩:=hh
  split at h3
  ·cases h3; exact z0av hN h2
  ·cases h3
 ·cases hh; exact Nat.le_refl _
 ·cases hh
theorem zvw (hN:zzq M.call):∀ {l:List (Option (Nat × Bool) × AI)}{env env':List V}{h h':H},zkd M l env h=some (env',h')->h.next<=h'.next
 | [],_,_,_,_,hh=>by simp only[zkd,Option.some.injEq,Prod.mk.injEq] at hh; rw[hh.2]; exact Nat.le_refl _
 | (g,i) :: l,env,env',h,h',hh=>by
  simp only[zkd,Option.bind_eq_some_iff] at hh
  obtain⟨⟨e1,h1⟩,h2,h3⟩:=hh
  exact Nat.le_trans (z0es hN h2) (zvw hN h3)
end
section
variable {P:Program}{tab:Tab}{M:Env}{Q:Exit->Act->World->Prop}
def FreshTo (β:Nat->Option Loc) (n N:Nat):Prop:=∀b,n<=b->b<N->β b=none
theorem FreshTo.step {β β':Nat->Option Loc}{h h':H}{w w':World}{N:Nat} (hf:FreshTo β h.next N) (ht:Tr β β' h h' w w'):FreshTo β' h'.next N:=by
 intro b h1 h2
 cases hq:β' b with
 | none=>rfl
 | some l =>
  rcases ht.dom b (by rw[hq]; simp) with q | ⟨_,q⟩
  ·exact absurd (hf b (Nat.le_trans ht.next h1) h2) q
  ·omega
theorem z0js (hC:zfp P tab M.call) (hM:zkb P tab M.meth) {ops:Array Oper}{o:Oper}{i:Nat}{A:AI}{g:Option (Nat × Bool)}{env env':List V}{h h':H}{a:Act}{w:World}{β:Nat->Option Loc}
  (ho:ops[i]?=some o) (hA:A.op=cOpF P tab o) (hd:A.dst=o.dst) (hg:gOf ops.toList o=some g) (hx:ex1 M g A env h=some (env',h'))
  (hR:Rel tab β h.get w) (hE:EnvR tab β env a) (hF:zi6 β h h') {K:Act->World->Prop}
  (hK:∀a' w' β',EnvR tab β' env' a'->Rel tab β' h'.get w'->Tr β β' h h' w w'->a'.defers=a.defers->K a' w'):Go.wpOp P ops Q i K a w:=by
 unfold Go.wpOp
 rw[ho]
 have hwant:∀b,zd4 env g=some b->Go.Region.wanted o (Go.yielded ops a.tmps)=b:=by
  intro b hb
  unfold gOf at hg
  unfold Go.Region.wanted
  split at hg
  ·rename_i hgn
   cases hg
   simp only[zd4,Option.some.injEq] at hb
   rw[hgn]; exact hb
  ·rename_i j want hgn
   split at hg
   ·rename_i t ht
    cases hg
    rw[hgn]
    have ht':(ops[j]?).bind (·.dst)=some t:=by rw[<-ht]; simp
    simp only[zd4] at hb
    have hr:=RVs.getD hE t
    split at hb
    ·rename_i b' hb'
     cases hb
     rw[hb'] at hr
     have hv:a.tmps.toList.getD t Go.undef=.bool b':=hr
     have hv2:a.tmps[t]?=some (.bool b'):=by
      rw[List.getD_eq_getElem?_getD] at hv
      cases hq:a.tmps.toList[t]? with
      | none=>rw[hq] at hv; cases hv
      | some x=>rw[hq] at hv; simp at hv; subst hv; simpa using hq
     simp only[Go.yielded,ht',Option.bind_some,hv2]
     cases b' <;> cases want <;> rfl
    ·rename_i hb'
     cases hb
     rw[hb'] at hr
     obtain⟨arr,hv,harr⟩:=hr
     have hn:∀b',a.tmps[t]?≠some (.bool b'):=by
      intro b' hq
      have hq':a.tmps.toList[t]?=some (.bool b'):=by simpa using hq
      rw[List.getD_eq_getElem?_getD,hq'] at hv
      cases hv
     have:Go.yielded ops a.tmps j=none:=by
      unfold Go.yielded
      rw[ht',Option.bind_some]
      cases hq:a.tmps[t]? with
      | none=>rfl
      | some x=>cases x <;> first | rfl | exact absurd hq (hn _)
     show(Go.yielded ops a.tmps j == some want)=false
     rw[this]; cases want <;> rfl
    ·cases hb
   ·cases hg
 unfold ex1 at hx
 split at hx
 ·rename_i hw
  simp only[hwant true hw,if_true]
  simp only[Option.bind_eq_some_iff] at hx
  obtain⟨⟨v,h1⟩,h2,h3⟩:=hx
  split at h3
  ·cases h3
   rw[hA] at h2
   have hop:∃A',cOp P tab o=some A'/\cOpF P tab o=A':=by
    unfold cOpF at h2 ⊢
    cases hq:cOp P tab o with
    | some A'=>exact⟨A',rfl,rfl⟩
    | none=>rw[hq] at h2; simp[sd,step,z51,opd,V.undef] at h2
   obtain⟨A',hA1,hA2⟩:=hop
   rw[hA2] at h2
   have hgw:=z0i0 (Q:=Q) hC hM hR hF hE hA1 h2
   refine .inl (Go.Oper.wp_mono ?_ hgw)
   rintro a' w' ⟨cv,rfl,β',hv,hrel,htr⟩
   refine hK _ _ β' ?_ hrel htr ?_
   ·rw[hd]; exact(hE.mono htr.ext).put _ hv
   ·cases o.dst <;> rfl
  ·cases h3
 ·rename_i hw
  simp only[hwant false hw,Bool.false_eq_true,if_false]
  cases hx
  refine hK _ _ β ?_ hR (Tr.refl h w) ?_
  ·rw[hd]; exact hE.put _ RV.undef
  ·cases o.dst <;> rfl
 ·cases hx
theorem z0nd (hC:zfp P tab M.call) (hM:zkb P tab M.meth) (hN:zzq M.call) {ops:Array Oper}{bs:List Nat}{N:Nat}:∀ {l done:List Nat}{ls:List (Option (Nat × Bool) × AI)}{env env':List V}{h h':H}{a:Act}{w:World}{β:Nat->Option Loc},
  zpg ops.toList bs (ops.toList.map (cOpF P tab)) false done l=some ls->(∀i∈l,i<ops.size)->zkd M ls env h=some (env',h')->h'.next<=N->Rel tab β h.get w->EnvR tab β env a->FreshTo β h.next N ->
  (∀a' w' β',EnvR tab β' env' a'->Rel tab β' h'.get w'->Tr β β' h h' w w'->a'.defers=a.defers->Q .normal a' w')->Go.wpOps P ops Q l a w:=by
 intro l
 induction l with
 | nil =>
  intro done ls env env' h h' a w β hl hlt hs hn hR hE hF hQ
  simp[zpg] at hl; subst hl
  simp only[zkd,Option.some.injEq,Prod.mk.injEq] at hs
  obtain⟨rfl,rfl⟩:=hs
  exact hQ a w β hE hR (Tr.refl h w) rfl
 | cons i l ih =>
  intro done ls env env' h h' a w β hl hlt hs hn hR hE hF hQ
  have hi:=hlt i (by simp)
  have ho:ops[i]?=some ops[i]:=by simp[hi]
  have hol:ops.toList[i]?=some ops[i]:=by simp[hi]
  simp only[zpg] at hl
  split at hl
  ·rename_i A r hA hr
   have hAA:A.op=cOpF P tab ops[i]/\A.dst=ops[i].dst:=by
    unfold aiOf at hA
    split at hA
    ·rename_i hq _; cases hq
    ·cases hA
     refine⟨?_,by simp only[hol,Option.bind_some]⟩
     simp only[List.getD_eq_getElem?_getD,List.getElem?_map,hol,Option.map_some,Option.getD_some]
   have hcons:∃g,gOf ops.toList ops[i]=some g/\ls=(g,A) :: r:=by
    rw[hol] at hl
    simp only[Option.bind_some] at hl
    unfold gOf
    split at hl
    ·rename_i hg; cases hl; rw[hg]; exact⟨none,rfl,rfl⟩
    ·rename_i j wv hg
     split at hl
     ·rename_i t ht; cases hl; rw[hg]; exact⟨some (t,wv),by simp only[ht],rfl⟩
     ·cases hl
   obtain⟨g,hg,rfl⟩:=hcons
   simp only[zkd,Option.bind_eq_some_iff] at hs
   obtain⟨⟨env1,h1⟩,hx,hs⟩:=hs
   have hnx:=z0es hN hx
   have hnr:=zvw hN hs
   rw[Go.wpOps_cons]
   refine z0js hC hM ho hAA.1 hAA.2 hg hx hR hE (fun b p1 p2=>hF b p1 (by simp only at hnr; omega)) fun a1 w1 β1 hE1 hR1 ht1 hd1 => ?_
   refine ih hr (fun j hj=>hlt j (by simp[hj])) hs hn hR1 hE1 (hF.step ht1) fun a2 w2 β2 hE2 hR2 ht2 hd2 => ?_
   exact hQ a2 w2 β2 hE2 hR2 (ht1.trans ht2) (hd2.trans hd1)
  ·cases hl
end
end Wm
