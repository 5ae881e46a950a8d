/- Each operation of my machine, as the model carries it out: calls, and all of them together. -/
import Derived.Test.YthkimcdeejjmbaaWmStepI
set_option linter.all false
namespace Wm
open Go (Value Addr World Obj Program IntKind TypeId Oper Operand Act Exit Sem TypeDesc)
def zfp (P:Program) (tab:Tab) (call:Nat->List V->H->Option (V × H)):Prop :=
 ∀f args h v h',call f args h=some (v,h')->∀k,zbg tab.fn k=some f->zlk P k=true/\∀β w (cargs:Array Value),Rel tab β h.get w->zi6 β h h'->RVs tab β args cargs.toList ->
  Go.Calls P k cargs w fun e w'=>∃cv,e=.returned cv/\Post tab β h w v h' cv w'
def zkb (P:Program) (tab:Tab) (meth:Nat->Nat->Option Nat):Prop :=
 ∀T t mm m f,zbg tab.ty T=some t->z06l tab.meth mm=some m->meth t m=some f->∃k,zbg tab.fn k=some f/\∀(v:Value) (w:World),(Go.method (P.types.size+Go.Made.depth) T v mm).run P w=.ok (k,v) w
section
variable {P:Program}{tab:Tab}{β:Nat->Option Loc}{h h':H}{w:World}{env:List V}{a:Act}{o:Oper}{v:V}{Q:Exit->Act->World->Prop}{M:Env}
theorem z070 {k:Nat} (hk:zlk P k=true) (args:Array Value):(Go.callFunc k args).run P w=.ok (.enter k args) w:=by
 unfold zlk at hk
 cases hf:P.funcs[k]? with
 | none=>simp[hf] at hk
 | some fn =>
  simp only[hf,Bool.and_eq_true,bne_iff_ne,ne_eq] at hk
  have hb:fn.body≠none:=by intro q; simp[q] at hk
  simp[Go.callFunc,hf,hk.2,hb]
theorem z0ej {k:Nat}{args:Array Value}{R:Value->World->Prop} (hrun:(Go.execOp a.eval o).run P w=.ok (.enter k args) w) (hc:Go.Calls P k args w fun e w'=>∃cv,e=.returned cv/\R cv w'):Gw P o a w R Q:=by
 unfold Gw Oper.wp
 rw[hrun,Oper.upon_enter]
 refine Go.Calls.mono hc ?_
 rintro e w' ⟨cv,rfl,hr⟩
 exact⟨cv,rfl,hr⟩
theorem z0e4 (hC:zfp P tab M.call) (hR:Rel tab β h.get w) (hF:zi6 β h h') {c:Go.Call}{x:Operand}{k f:Nat}{caps:Array Value}{vs:List V} (ho:o.op=.call c) (hcal:c.callee=.value x) (hx:a.eval x=.func (.func k) #[] caps) (hk:zbg tab.fn k=some f)
  (hargs:RVs tab β vs ((c.args.map a.eval) ++ caps).toList) (hs:M.call f vs h=some (v,h')):Gw P o a w (Post tab β h w v h') Q:=by
 obtain⟨hcl,hcalls⟩:=hC f vs h v h' hs k hk
 refine z0ej (k:=k) (args:=(c.args.map a.eval) ++ caps) ?_ (hcalls β w _ hR hF hargs)
 simp only[Go.execOp,ho,Go.resolve,hcal,hx,Go.Deferred.ofValue,Sem.run_bind,Sem.run_pure,Go.Result.andThen_ok,Go.invoke,Array.empty_append,z070 hcl]
theorem z0nh (hC:zfp P tab M.call) (hR:Rel tab β h.get w) (hF:zi6 β h h') (hE:EnvR tab β env a) {c:Go.Call}{k f:Nat}{as:List Opd} (ho:o.op=.call c) (hcal:c.callee=.value (.func k)) (hk:zbg tab.fn k=some f) (ha:zo1 tab c.args.toList=some as)
  (hs:sd M (.call f as) env h=some (v,h')):Gw P o a w (Post tab β h w v h') Q:=by
 simp only[sd,step,Option.bind_eq_some_iff,Option.some.injEq] at hs
 obtain⟨⟨v0,h0⟩,hp,he⟩:=hs
 cases he
 exact z0e4 hC hR hF ho hcal (caps := #[]) rfl hk (by simpa using zzf hE ha) hp
theorem z0m4 (hC:zfp P tab M.call) (hR:Rel tab β h.get w) (hF:zi6 β h h') (hE:EnvR tab β env a) {c:Go.Call}{x:Operand}{x':Opd}{as:List Opd} (ho:o.op=.call c) (hcal:c.callee=.value x) (hx:cOpd tab x=some x') (ha:zo1 tab c.args.toList=some as)
  (hs:sd M (.callv x' as) env h=some (v,h')):Gw P o a w (Post tab β h w v h') Q:=by
 simp only[sd,step] at hs
 split at hs
 ·rename_i f caps e1
  simp only[Option.bind_eq_some_iff,Option.some.injEq] at hs
  obtain⟨⟨v0,h0⟩,hp,he⟩:=hs
  cases he
  have hxr:=zu hE hx
  rw[e1] at hxr
  obtain⟨k,cs,hxv,hk,hcs⟩:=hxr
  exact z0e4 hC hR hF ho hcal hxv hk (by rw[Array.toList_append,Array.toList_map]; exact RVs.append (zzf hE ha) hcs) hp
 ·cases hs
theorem z0kg (hC:zfp P tab M.call) (hM:zkb P tab M.meth) (hR:Rel tab β h.get w) (hF:zi6 β h h') (hE:EnvR tab β env a) {c:Go.Call}{x:Operand}{x':Opd}{as:List Opd}{mm:String}{m:Nat} (ho:o.op=.call c) (hcal:c.callee=.invoke x mm) (hm:z06l tab.meth mm=some m) (hx:cOpd tab x=some x') (ha:zo1 tab c.args.toList=some as)
  (hs:sd M (.invoke m x' as) env h=some (v,h')):Gw P o a w (Post tab β h w v h') Q:=by
 simp only[sd,step] at hs
 split at hs
 ·rename_i t u e1
  simp only[Option.bind_eq_some_iff,Option.some.injEq] at hs
  obtain⟨f,hf,⟨v0,h0⟩,hp,he⟩:=hs
  cases he
  have hxr:=zu hE hx
  rw[e1] at hxr
  obtain⟨T,y,hxv,hT,hy⟩:=hxr
  obtain⟨k,hk,hmeth⟩:=hM T t mm m f hT hm hf
  obtain⟨hcl,hcalls⟩:=hC f _ h _ _ hp k hk
  refine z0ej (k:=k) (args := #[y] ++ c.args.map a.eval) ?_ (hcalls β w _ hR hF ?_)
  ·have hA:(#[Value.iface T y] ++ Array.map a.eval c.args:Array Value)=(Value.iface T y :: c.args.toList.map a.eval).toArray:=by
    apply Array.ext'
    rw[Array.toList_append,Array.toList_map]
    rfl
   have hex:(Value.iface T y :: c.args.toList.map a.eval).toArray.extract 1 (Value.iface T y :: c.args.toList.map a.eval).toArray.size=Array.map a.eval c.args:=by
    apply Array.ext'
    rw[Array.toList_extract,Array.toList_map]
    show((Value.iface T y :: c.args.toList.map a.eval).drop 1).take _=_
    rw[List.drop_succ_cons,List.drop_zero]
    exact List.take_of_length_le (by simp)
   have e1:(Go.execOp a.eval o).run P w=(Go.invoke (.fn (.method mm) #[]) (#[Value.iface T y] ++ Array.map a.eval c.args)).run P w:=by
    simp[Go.execOp,ho,Go.resolve,hcal,hxv]
   rw[e1,hA]
   have h0:(Value.iface T y :: c.args.toList.map a.eval).toArray[0]?=some (Value.iface T y):=rfl
   simp only[Go.invoke,h0,hex,Go.callMethod,Sem.run_bind,Go.run_program,Go.Result.andThen_ok,hmeth,z070 hcl]
  ·have:(#[y] ++ Array.map a.eval c.args).toList=y :: c.args.toList.map a.eval:=by simp
   rw[this]
   exact RVs.cons hy (zzf hE ha)
 ·cases hs
theorem z0i0 (hC:zfp P tab M.call) (hM:zkb P tab M.meth) (hR:Rel tab β h.get w) (hF:zi6 β h h') (hE:EnvR tab β env a) {A:AOp} (hc:cOp P tab o=some A) (hs:sd M A env h=some (v,h')):Gw P o a w (Post tab β h w v h') Q:=by
 unfold cOp at hc
 split at hc
 ·rename_i x ho
  obtain⟨y,hy,rfl⟩:=Option.map_eq_some_iff.mp hc
  exact z0lj hR hE (.inl ho) hy hs
 ·rename_i x ho
  obtain⟨y,hy,rfl⟩:=Option.map_eq_some_iff.mp hc
  exact z0lj hR hE (.inr ho) hy hs
 ·rename_i c x y ho
  simp only[Option.bind_eq_some_iff,Option.map_eq_some_iff] at hc
  obtain⟨c',h1,x',h2,y',h3,rfl⟩:=hc
  exact z0na hR hE ho h1 h2 h3 hs
 ·rename_i e ho
  obtain⟨z,hz,rfl⟩:=Option.map_eq_some_iff.mp hc
  exact z0m2 hR hF ho hz hs
 ·rename_i e x ho
  obtain⟨y,hy,rfl⟩:=Option.map_eq_some_iff.mp hc
  exact z0ob hR hF hE ho hy hs
 ·rename_i t parts ho
  simp only[Option.bind_eq_some_iff] at hc
  obtain⟨z,hz,hc⟩:=hc
  split at hc
  ·rename_i fs hu
   split at hc
   ·rename_i hall
    obtain⟨ps,hps,rfl⟩:=Option.map_eq_some_iff.mp hc
    exact z0ms hR hE ho hu (fun f hf=>Option.isSome_iff_exists.mp (List.all_eq_true.mp hall f hf)) hz hps hs
   ·cases hc
  ·rename_i n e hu
   simp only[Option.bind_eq_some_iff] at hc
   obtain⟨inf,hinf,hc⟩:=hc
   obtain⟨ps,hps,rfl⟩:=Option.map_eq_some_iff.mp hc
   exact z0hf hR hE ho hu hinf hz hps hs
  ·cases hc
 ·rename_i t len parts ho
  split at hc
  ·rename_i e hu
   split at hc
   ·rename_i hsm; simp at hsm
    simp only[Option.bind_eq_some_iff] at hc
    obtain⟨z,hz,hc⟩:=hc
    obtain⟨ps,hps,rfl⟩:=Option.map_eq_some_iff.mp hc
    exact z0jp hR hF hE ho hu hsm hz hps hs
   ·cases hc
  ·cases hc
 ·rename_i t x ho
  simp only[Option.bind_eq_some_iff,Option.map_eq_some_iff] at hc
  obtain⟨x',hx,d,hu,rfl⟩:=hc
  cases hag:z5u P t with
  | true=>rw[hag] at hs; exact z0md hR hE ho hu hag hx hs
  | false=>rw[hag] at hs; exact z0n2 hR hE ho hu hag hx hs
 ·rename_i t x y ho
  simp only[Option.bind_eq_some_iff,Option.map_eq_some_iff] at hc
  obtain⟨x',hx,y',hy,d,hu,rfl⟩:=hc
  exact z0m6 hR hE ho hu hx hy hs
 ·rename_i x ho
  obtain⟨y,hy,rfl⟩:=Option.map_eq_some_iff.mp hc
  exact z0nt hR hE ho hy hs
 ·rename_i op xt x y yt ho
  unfold cBin at hc
  simp only[Option.bind_eq_some_iff] at hc
  obtain⟨x',hx,y',hy,hc⟩:=hc
  split at hc
  ·rename_i k hu
   split at hc
   ·rename_i hsh
    split at hc
    ·rename_i ky hu2; cases hc
     exact z0mb hR hE ho hx hy hsh hs
    ·cases hc
   ·rename_i hsh
    split at hc
    ·rename_i hcm; cases hc
     exact z0o5 hR hE ho hx hy hcm hs
    ·rename_i hcm; cases hc
     exact z0m5 hR hE ho hx hy hsh hcm hs
  ·rename_i hu
   obtain⟨neg,rfl,hop⟩:=z06m hc
   exact z0kk hR hE ho hx hy hu hop hs
  ·rename_i hu
   split at hc
   ·cases hc; exact z0ge hR hE ho hx hy (.inl ⟨rfl,rfl⟩) hs
   ·cases hc; exact z0ge hR hE ho hx hy (.inr ⟨rfl,rfl⟩) hs
   ·cases hc; exact z0o7 hR hE ho hx hy hs
   ·cases hc
  ·rename_i e hu
   obtain⟨neg,rfl,hop⟩:=z06m hc
   exact z0m0 hR hE ho hx hy hu hop hs
  ·rename_i e hu
   obtain⟨neg,rfl,hop⟩:=z06m hc
   exact z0ny hR hE ho hx hy hu hop hs
  ·rename_i k e hu
   obtain⟨neg,rfl,hop⟩:=z06m hc
   exact z0n1 hR hE ho hx hy hu hop hs
  ·rename_i ms hu
   split at hc
   ·rename_i hk; cases hc; exact z0gb hR hE ho hx hy hu hk (.inl ⟨rfl,rfl⟩) hs
   ·rename_i hk; cases hc; exact z0gb hR hE ho hx hy hu hk (.inr ⟨rfl,rfl⟩) hs
   ·cases hc
  ·rename_i fs hu
   split at hc
   ·cases hc
   ·rename_i hgd
    simp only[Option.bind_eq_some_iff] at hc
    obtain⟨offs,hoff,hc⟩:=hc
    obtain⟨neg,rfl,hop⟩:=z06m hc
    exact z0n0 hR hE ho hx hy hu hgd hoff hop hs
  ·cases hc
 ·rename_i t x ho
  obtain⟨y,hy,rfl⟩:=Option.map_eq_some_iff.mp hc
  exact z0o4 hR hE ho hy hs
 ·rename_i src dst x ho
  simp only[Option.bind_eq_some_iff] at hc
  obtain⟨x',hx,hc⟩:=hc
  split at hc
  ·rename_i j k h1 h2; cases hc
   exact z0nl hR hE ho h1 h2 hx hs
  ·cases hc
 ·rename_i t x ho
  split at hc
  ·cases hc
  ·cases hc
  ·rename_i d hd hu
   simp only[Option.bind_eq_some_iff,Option.map_eq_some_iff] at hc
   obtain⟨t',ht,x',hx,rfl⟩:=hc
   exact z0mg hR hE ho hu (fun ms e=>hd ms e) ht hx hs
 ·rename_i f first caps ho
  split at hc
  ·rename_i hfirst hcall
   simp only[Option.bind_eq_some_iff,Option.map_eq_some_iff] at hc
   obtain⟨f',hf,cs,hcs,rfl⟩:=hc
   exact z0nx hR hE ho hfirst hf hcs hs
  ·cases hc
 ·rename_i t ho
  split at hc
  ·cases hc; exact z0mp hR hF ho hs
  ·cases hc
 ·rename_i t l c ho
  split at hc
  ·rename_i e hu
   simp only[Option.bind_eq_some_iff,Option.map_eq_some_iff] at hc
   obtain⟨inf,hinf,z,hz,x',hx,y',hy,rfl⟩:=hc
   exact z0nn hR hF hE ho hu hinf hz hx hy hs
  ·cases hc
 ·rename_i t x lo hi mx ho
  simp only[Option.bind_eq_some_iff] at hc
  obtain⟨x',hx,lo',h1,hi',h2,mx',h3,hc⟩:=hc
  obtain⟨o1,_⟩:=z0a9 hE h1
  obtain⟨o2,_⟩:=z0a9 hE h2
  obtain⟨o3,o3'⟩:=z0a9 hE h3
  split at hc
  ·rename_i e hu
   split at hc
   ·cases hc
   ·rename_i hn
    obtain⟨inf,hinf,rfl⟩:=Option.map_eq_some_iff.mp hc
    exact z0mv hR hE ho hu hinf hx o1 o2 o3 hn hs
  ·rename_i hu
   cases hc
   have:mx=none:=by cases mx with
    | none=>rfl
    | some m=>simp at o3'
   subst this
   exact z0hk hR hE ho hu hx o1 o2 hs
  ·cases hc
 ·rename_i s x i ho
  split at hc
  ·rename_i fs hu
   simp only[Option.bind_eq_some_iff] at hc
   obtain⟨f,hf,hc⟩:=hc
   split at hc
   ·cases hc
   ·rename_i hz
    obtain⟨x',hx,rfl⟩:=Option.map_eq_some_iff.mp hc
    exact z0lc hR hE ho hu hf (Nat.ne_of_beq_eq_false hz) hx hs
  ·cases hc
 ·rename_i t x i ho
  split at hc
  ·rename_i fs hu
   simp only[Option.bind_eq_some_iff,Option.map_eq_some_iff] at hc
   obtain⟨f,hf,d,hd,x',hx,rfl⟩:=hc
   exact z0mz hR hE ho hu hf hd hx hs
  ·cases hc
 ·rename_i t x i ho
  simp only[Option.bind_eq_some_iff] at hc
  obtain⟨x',hx,i',hi,hc⟩:=hc
  split at hc
  ·rename_i e hu
   obtain⟨inf,hinf,rfl⟩:=Option.map_eq_some_iff.mp hc
   exact z0kb hR hE ho hu hinf hx hi hs
  ·rename_i n e hu
   obtain⟨inf,hinf,rfl⟩:=Option.map_eq_some_iff.mp hc
   exact z0hn hR hE ho hu hinf hx hi hs
  ·cases hc
 ·rename_i t x i ho
  simp only[Option.bind_eq_some_iff] at hc
  obtain⟨x',hx,i',hi,hc⟩:=hc
  split at hc
  ·rename_i n e hu
   obtain⟨d,hd,rfl⟩:=Option.map_eq_some_iff.mp hc
   exact z0i2 hR hE ho hu hd hx hi hs
  ·rename_i hu
   cases hc
   exact z0i7 hR hE ho hu hx hi hs
  ·cases hc
 ·rename_i t m k ok ho
  simp only[Option.bind_eq_some_iff] at hc
  obtain⟨m',hm,k',hk,hc⟩:=hc
  split at hc
  ·rename_i key e hu
   simp only[Option.bind_eq_some_iff,Option.map_eq_some_iff] at hc
   obtain⟨c,hck,z,hz,rfl⟩:=hc
   exact z0l7 hR hE ho hu hck hz hm hk hs
  ·cases hc
 ·rename_i t m k x ho
  simp only[Option.bind_eq_some_iff] at hc
  obtain⟨m',hm,k',hk,x',hx,hc⟩:=hc
  split at hc
  ·rename_i key e hu
   obtain⟨c,hck,rfl⟩:=Option.map_eq_some_iff.mp hc
   exact z0la hR hE ho hu hck hm hk hx hs
  ·cases hc
 ·rename_i x i ho
  obtain⟨x',hx,rfl⟩:=Option.map_eq_some_iff.mp hc
  exact z0iz hR hE ho hx hs
 ·rename_i c ho
  split at hc
  ·rename_i f hcal
   split at hc
   ·simp only[Option.bind_eq_some_iff,Option.map_eq_some_iff] at hc
    obtain⟨f',hf,as,has,rfl⟩:=hc
    exact z0nh hC hR hF hE ho hcal hf has hs
   ·split at hc
    ·rename_i hcl
     simp only[Option.bind_eq_some_iff] at hc
     obtain⟨l,hl,hc⟩:=hc
     split at hc
     ·cases hc
      exact z0kp hR hF hE ho hcal hcl hl hs
     ·cases hc
    ·cases hc
  ·rename_i x _ hcal
   simp only[Option.bind_eq_some_iff,Option.map_eq_some_iff] at hc
   obtain⟨x',hx,as,has,rfl⟩:=hc
   exact z0m4 hC hR hF hE ho hcal hx has hs
  ·rename_i r m hcal
   simp only[Option.bind_eq_some_iff,Option.map_eq_some_iff] at hc
   obtain⟨m',hm,x',hx,as,has,rfl⟩:=hc
   exact z0kg hC hM hR hF hE ho hcal hm hx has hs
  ·rename_i b hcal
   unfold z0er at hc
   simp only[Option.bind_eq_some_iff] at hc
   obtain⟨xs,hxs,hc⟩:=hc
   have hargs:∀ {l:List Operand},c.args.toList=l->c.args=l.toArray:=fun e=>by rw[<-e]
   have htys:∀ {l:List TypeId},c.argTypes.toList=l->c.argTypes=l.toArray:=fun e=>by rw[<-e]
   have one:∀ {y:Opd},xs=[y]->∃x,c.args = #[x]/\cOpd tab x=some y:=by
    intro y e
    subst e
    have:=zfc hxs
    cases hl:c.args.toList with
    | nil=>rw[hl] at this; simp at this
    | cons x l =>
     rw[hl] at this
     cases l with
     | nil=>simp at this; exact⟨x,hargs hl,this⟩
     | cons _ _=>simp at this
   have two:∀ {y z:Opd},xs=[y,z]->∃x u,c.args = #[x,u]/\cOpd tab x=some y/\cOpd tab u=some z:=by
    intro y z e
    subst e
    have:=zfc hxs
    cases hl:c.args.toList with
    | nil=>rw[hl] at this; simp at this
    | cons x l =>
     rw[hl] at this
     cases l with
     | nil=>simp at this
     | cons u l =>
      cases l with
      | nil=>simp at this; exact⟨x,u,hargs hl,this.1,this.2⟩
      | cons _ _=>simp at this
   split at hc
   ·rename_i x t hb ht
    obtain⟨u,hu1,hu2⟩:=one rfl
    split at hc
    ·rename_i hty; cases hc
     exact z0ld hR hE ho hcal hu1 (htys ht) hty hu2 hs
    ·rename_i e hty; cases hc
     exact z0mx hR hE ho hcal hu1 (htys ht) hty hu2 hs
    ·rename_i k e hty; cases hc
     exact z0l5 hR hE ho hcal hu1 (htys ht) hty hu2 hs
    ·cases hc
   ·rename_i s x t u hb ht
    obtain⟨p,q,hu1,hu2,hu3⟩:=two rfl
    split at hc
    ·rename_i e eu h1 h2
     simp only[Option.bind_eq_some_iff] at hc
     obtain⟨inf,hinf,z,hz,hc⟩:=hc
     split at hc
     ·rename_i hzl; cases hc
      exact z0k5 hR hF hE ho hcal hu1 (htys ht) h1 h2 hinf hz (Nat.eq_of_beq_eq_true hzl) hu2 hu3 hs
     ·cases hc
    ·cases hc
   ·rename_i s x t u hb ht
    obtain⟨p,q,hu1,hu2,hu3⟩:=two rfl
    split at hc
    ·rename_i e eu h1 h2
     obtain⟨inf,hinf,rfl⟩:=Option.map_eq_some_iff.mp hc
     exact z0o1 hR hE ho hcal hu1 (htys ht) h1 hinf hu2 hu3 hs
    ·cases hc
   ·rename_i m k t u hb ht
    obtain⟨p,q,hu1,hu2,hu3⟩:=two rfl
    split at hc
    ·rename_i key e h1
     obtain⟨ck,hck,rfl⟩:=Option.map_eq_some_iff.mp hc
     exact z0k8 hR hE ho hcal hu1 (htys ht) h1 hck hu2 hu3 hs
    ·cases hc
   ·rename_i x y t ts hb ht
    obtain⟨p,q,hu1,hu2,hu3⟩:=two rfl
    split at hc
    ·rename_i k h1; cases hc
     exact z0di (isMax:=false) hR hE ho hcal hu1 hu2 hu3 hs
    ·cases hc
   ·rename_i x y t ts hb ht
    obtain⟨p,q,hu1,hu2,hu3⟩:=two rfl
    split at hc
    ·rename_i k h1; cases hc
     exact z0di (isMax:=true) hR hE ho hcal hu1 hu2 hu3 hs
    ·cases hc
   ·cases hc
 ·rename_i x xt t ok ho
  split at hc
  ·rename_i d hu
   split at hc
   ·cases hc
   ·rename_i hd
    simp only[Option.bind_eq_some_iff] at hc
    obtain⟨t',ht,hc⟩:=hc
    split at hc
    ·rename_i hall
     obtain⟨x',hx,rfl⟩:=Option.map_eq_some_iff.mp hc
     exact z0ni hR hE ho hu (fun ms e=>by subst e; simp at hd) ht hall hx hs
    ·cases hc
  ·cases hc
 ·cases hc
end
end Wm
