/- Functions, and whole runs. -/
import Derived.Test.YthkimcdeejjmbaaWmCode
set_option linter.all false
namespace Wm
open Go (Value Addr World Obj Program IntKind TypeId Oper Operand Act Exit Sem TypeDesc Code Func)
section
variable {P:Program}{tab:Tab}
def zvd (tmps:Array Value):Go.ResultVar->Sem Value
 | .tmp t=>pure (tmps.getD t Go.undef)
 | .cell a t=>do Go.loadVar t (<-Go.asAddr (tmps.getD a Go.undef))
theorem z0mn {β:Nat->Option Loc}{env:List V}{h:H}{w:World}{tmps:Array Value} (hR:Rel tab β h.get w) (hE:RVs tab β env tmps.toList) {r:Go.ResultVar}{A:ARes} (hc:cRes P r=some A) {v:V} (hv:z010 env h A=some v) :
  ∃c,(zvd tmps r).run P w=.ok c w/\RV tab β v c:=by
 cases r with
 | tmp t =>
  simp only[cRes,Option.some.injEq] at hc
  subst hc
  simp only[z010,Option.some.injEq] at hv
  subst hv
  refine⟨tmps.getD t Go.undef,by simp[zvd],?_⟩
  rw[z01f]; exact RVs.getD hE t
 | cell a t =>
  simp only[cRes,Option.map_eq_some_iff] at hc
  obtain⟨d,hu,rfl⟩:=hc
  have hx:RV tab β (env.getD a .undef) (tmps.getD a Go.undef):=by rw[z01f]; exact RVs.getD hE a
  cases hag:z5u P t with
  | true =>
   rw[hag] at hv
   simp only[z010] at hv
   obtain⟨B,O,dd,hcv,hcell,hr⟩:=z0gq (P:=P) hR hx hv
   refine⟨.agg dd,?_,hr⟩
   simp[zvd,hcv,Go.asAddr,Go.loadVar,zwx hu,hag,z008 hu,hcell]
  | false =>
   rw[hag] at hv
   simp only[z010] at hv
   obtain⟨B,O,cv,hcv,hcell,hr,_⟩:=z0g2 hR hx hv
   refine⟨cv,?_,hr⟩
   simp[zvd,hcv,Go.asAddr,Go.loadVar,zwx hu,hag,hcell]
theorem z0gv (fn:Func) (tmps:Array Value):Go.results fn tmps=(do
  let vs <-fn.results.mapM (zvd tmps)
  pure (if h:vs.size=1 then vs[0] else .tuple vs)):=by
 unfold Go.results
 congr 1
theorem z090 {β:Nat->Option Loc}{env:List V}{h:H}{w:World}{tmps:Array Value} (hR:Rel tab β h.get w) (hE:RVs tab β env tmps.toList):∀ {rs:List Go.ResultVar}{As:List ARes}{vs:List V},z6d (rs.map (cRes P))=some As->ztc env h As=some vs ->
  ∃cs:List Value,(rs.mapM (zvd tmps)).run P w=.ok cs w/\RVs tab β vs cs
 | [],As,vs,hc,hv=>by
  simp[z6d] at hc; subst hc
  simp[ztc] at hv; subst hv
  exact⟨[],by simp,rfl⟩
 | r :: rs,As,vs,hc,hv=>by
  rw[List.map_cons] at hc
  cases h1:cRes P r with
  | none=>rw[h1] at hc; simp[z6d] at hc
  | some A =>
   rw[h1] at hc
   simp only[z6d] at hc
   split at hc
   ·rename_i As' hA
    cases hc
    simp only[ztc] at hv
    split at hv
    ·rename_i v hv1
     split at hv
     ·rename_i vs' hv2
      cases hv
      obtain⟨c,hc1,hc2⟩:=z0mn hR hE h1 hv1
      obtain⟨cs,hcs1,hcs2⟩:=z090 hR hE hA hv2
      exact⟨c :: cs,by simp[List.mapM_cons,hc1,hcs1],RVs.cons hc2 hcs2⟩
     ·cases hv
    ·cases hv
   ·cases hc
theorem z0fr {β:Nat->Option Loc}{env:List V}{h:H}{w:World}{fn:Func}{tmps:Array Value} (hR:Rel tab β h.get w) (hE:RVs tab β env tmps.toList) {As:List ARes}{vs:List V} (hc:z6d (fn.results.toList.map (cRes P))=some As) (hv:ztc env h As=some vs) :
  ∃c,(Go.results fn tmps).run P w=.ok c w/\RV tab β (z48 vs) c:=by
 obtain⟨cs,h1,h2⟩:=z090 hR hE hc hv
 have h3:(fn.results.mapM (zvd tmps)).run P w=.ok cs.toArray w:=by
  rw[Array.mapM_eq_mapM_toList]
  simp[h1]
 refine⟨if h:cs.toArray.size=1 then cs.toArray[0] else .tuple cs.toArray,by rw[z0gv]; simp[h3],?_⟩
 unfold z48
 split
 ·rename_i v
  obtain⟨y,ys,rfl,hy,hys⟩:=h2
  cases hys
  exact hy
 ·rename_i hne
  have hl:=RVs.length h2
  have:¬cs.toArray.size=1:=by
   intro e
   have e':vs.length=1:=by rw[hl]; simpa using e
   obtain⟨v,rfl⟩:=List.length_eq_one_iff.mp e'
   exact hne v rfl
  rw[dif_neg this]
  exact⟨cs.toArray,rfl,h2⟩
theorem z0gn {β:Nat->Option Loc}:∀n,RVs tab β (und n) (List.replicate n Go.undef)
 | 0=>rfl
 | n+1=>RVs.cons RV.undef (z0gn n)
def ProgOk (P:Program) (tab:Tab) (prog:Nat->Option AFunc):Prop :=
 ∀f af,prog f=some af->∀k,zbg tab.fn k=some f->zlk P k=true/\∃fn hs,P.funcs[k]?=some fn/\comp P tab af.closed hs fn=some af
theorem z0k0 {M:Env} (hN:NdOk M.call) (hL:LoopOk M) {f:AFunc}{args:List V}{h h':H}{v:V} (he:z06 M f args h=some (v,h')):Nd h h':=by
 unfold z06 at he
 split at he
 ·obtain⟨x,e1,h1,n1,hx⟩:=ze1 hN hL (c:=f.body) he
  unfold fin at hx
  split at hx
  ·split at hx
   ·cases hx; exact n1
   ·cases hx
  ·split at hx
   ·cases hx; exact n1
   ·cases hx
  ·cases hx
 ·cases he
theorem z0e2 {M:Env} (hm:P.follows .mixedOrders=true) (hC:zfp P tab M.call) (hM:zkb P tab M.meth) (hN:NdOk M.call) (hL:LoopOk M) {k:Nat}{fn:Func}{hs:zcd}{cl:Bool}{af:AFunc} (hk:P.funcs[k]?=some fn) (hc:comp P tab cl hs fn=some af)
  {args:List V}{h h':H}{v:V} (he:z06 M af args h=some (v,h')) {β:Nat->Option Loc}{w:World}{cargs:Array Value} (hR:Rel tab β h.get w) (hF:zi6 β h h') (ha:RVs tab β args cargs.toList) :
  Go.Calls P k cargs w fun e w'=>∃cv,e=.returned cv/\Post tab β h w v h' cv w':=by
 unfold comp at hc
 simp only[Option.bind_eq_some_iff,Option.map_eq_some_iff] at hc
 obtain⟨c,hb,p,hp,r,hr,rfl⟩:=hc
 unfold z06 at he
 split at he
 ·rename_i hlen
  have hlen:=Nat.eq_of_beq_eq_true hlen
  refine Go.calls_of_wp hk hb ((z0m9 hm hC hM hN hL c).1 hp _ _ _ h'.next _ h β _ w _ he hR ?_ hF ?_ ?_)
  ·show RVs tab β (args ++ und (fn.ntmps-args.length)) (cargs ++ Array.replicate (fn.ntmps-cargs.size) Go.undef).toList
   have:cargs.size=args.length:=by rw[RVs.length ha]; simp
   rw[this]
   simpa using ha.append (z0gn _)
  ·intro x env' h1 hx
   unfold fin at hx
   split at hx
   ·split at hx
    ·cases hx; exact Nat.le_refl _
    ·cases hx
   ·split at hx
    ·cases hx; exact Nat.le_refl _
    ·cases hx
   ·cases hx
  ·intro x env' h1 a' w' β' hx hE' hR' ht' hd'
   have fin_ok:∀vs,ztc env' h1 r=some vs->some (z48 vs,h1)=some (v,h')->a'.defers=[]/\∃cv,(Go.results fn a'.tmps).run P w'=.ok cv w'/\∃cv',Go.Ending.returned cv=.returned cv'/\Post tab β h w v h' cv' w':=by
    intro vs hvs e
    cases e
    obtain⟨cv,h2,h3⟩:=z0fr hR' hE' hr hvs
    exact⟨hd',cv,h2,cv,rfl,β',h3,hR',ht'⟩
   unfold fin at hx
   split at hx
   ·split at hx
    ·rename_i vs hvs; exact fin_ok vs hvs hx
    ·cases hx
   ·split at hx
    ·rename_i vs hvs; exact fin_ok vs hvs hx
    ·cases hx
   ·cases hx
 ·cases he
mutual
theorem z085 {β β2:Nat->Option Loc}:∀(v:V) (c:Value),V.flat v=true->RV tab β v c->RV tab β2 v c
 | .bool _,_,_,r=>r
 | .int _ _,_,_,r=>r
 | .str _,_,_,r=>r
 | .ptr _ _,_,h,_=>by simp[V.flat] at h
 | .nilp,_,_,r=>r
 | .sl _ _ _ _,_,h,_=>by simp[V.flat] at h
 | .nilsl,_,_,r=>r
 | .map _,_,h,_=>by simp[V.flat] at h
 | .nilmap,_,_,r=>r
 | .fn _ caps,_,h,r=>let ⟨k,cs,e,a,m⟩:=r; ⟨k,cs,e,a,zx0 caps cs.toList (by simpa [V.flat] using h) m⟩
 | .nilfn,_,_,r=>r
 | .ifc _ x,_,h,r=>let ⟨T,y,e,a,m⟩:=r; ⟨T,y,e,a,z085 x y (by simpa [V.flat] using h) m⟩
 | .nilifc,_,_,r=>r
 | .agg cs,_,h,r=>let ⟨a,e,m⟩:=r; ⟨a,e,zx0 cs a.toList (by simpa [V.flat] using h) m⟩
 | .tup vs,_,h,r=>let ⟨a,e,m⟩:=r; ⟨a,e,zx0 vs a.toList (by simpa [V.flat] using h) m⟩
 | .dead,_,h,_=>by simp[V.flat] at h
theorem zx0 {β β2:Nat->Option Loc}:∀(vs:List V) (cs:List Value),V.flats vs=true->RVs tab β vs cs->RVs tab β2 vs cs
 | [],_,_,r=>r
 | x :: xs,_,h,r=>let ⟨y,ys,e,a,b⟩:=r; ⟨y,ys,e,z085 x y (by simp only[V.flats,Bool.and_eq_true] at h; exact h.1) a,zx0 xs ys (by simp only[V.flats,Bool.and_eq_true] at h; exact h.2) b⟩
end
theorem z0kr {M:Env} (hN:NdOk M.call) (hL:LoopOk M) {f:AFunc}{args:List V}{h h':H}{v:V} (he:zeq M f args h=some (v,h')):Nd h h':=by
 unfold zeq at he
 split at he
 ·exact z0k0 hN hL he
 ·split at he
  ·simp only[Option.bind_eq_some_iff] at he
   obtain⟨p,_,he⟩:=he
   split at he
   ·cases he; exact Nd.refl h
   ·cases he
  ·cases he
theorem z0km {M:Env} (hm:P.follows .mixedOrders=true) (hC:zfp P tab M.call) (hM:zkb P tab M.meth) (hN:NdOk M.call) (hL:LoopOk M) {k:Nat}{fn:Func}{hs:zcd}{cl:Bool}{af:AFunc} (hk:P.funcs[k]?=some fn) (hc:comp P tab cl hs fn=some af)
  {args:List V}{h h':H}{v:V} (he:zeq M af args h=some (v,h')) {β:Nat->Option Loc}{w:World}{cargs:Array Value} (hR:Rel tab β h.get w) (hF:zi6 β h h') (ha:RVs tab β args cargs.toList) :
  Go.Calls P k cargs w fun e w'=>∃cv,e=.returned cv/\Post tab β h w v h' cv w':=by
 unfold zeq at he
 split at he
 ·exact z0e2 hm hC hM hN hL hk hc he hR hF ha
 ·split at he
  ·rename_i hfl
   simp only[Option.bind_eq_some_iff] at he
   obtain⟨⟨v1,h1⟩,he1,he⟩:=he
   split at he
   ·rename_i hv
    simp only[Option.some.injEq,Prod.mk.injEq] at he
    obtain⟨rfl,rfl⟩:=he
    have hempty:∀b,(H.empty).get b=none:=fun b=>T.get_leaf b
    refine(z0e2 hm hC hM hN hL hk hc he1 (β:=fun _=>none) (w:=w) (cargs:=cargs) ⟨?_,?_⟩ ?_ (zx0 _ _ hfl ha)).mono ?_
    ·intro b x hb; rw[hempty] at hb; cases hb
    ·intro b x b' x' l l' hb; rw[hempty] at hb; cases hb
    ·intro b _ _; rfl
    ·rintro e w' ⟨cv,rfl,β',hr,_,ht⟩
     have hB:∀B,B<w.heap.size->w'.heap[B]?=w.heap[B]?:=fun B hB=>ht.frame B hB fun b x l hb=>by rw[hempty] at hb; cases hb
     refine⟨cv,rfl,β,z085 _ _ hv hr,⟨fun b x hb => ?_,hR.sep⟩,⟨Ext.refl _,fun _ hb=>.inl hb,Nat.le_refl _,ht.os,ht.tape,ht.output,ht.size,fun B hB' _=>hB B hB',fun b x l hb hl=>.inr ⟨b,x,l,hb,hl,rfl,id⟩⟩⟩
     obtain⟨l,hl,hBk⟩:=hR.blk b x hb
     exact⟨l,hl,hBk.keep (Ext.refl _) ht.size (hB _ hBk.lt)⟩
   ·cases he
  ·cases he
end
end Wm
