/- Each operation of my machine, as the model carries it out: slices, append, maps. -/
import Derived.Test.YthkimcdeejjmbaaWmStepF
set_option linter.all false
namespace Wm
open Go (Value Addr World Obj Program IntKind TypeId Oper Operand Act Exit Sem TypeDesc)
section
variable {P:Program}{tab:Tab}{β:Nat->Option Loc}{h h':H}{w:World}{env:List V}{a:Act}{o:Oper}{v:V}{Q:Exit->Act->World->Prop}{M:Env}
theorem z0e9 {n:Int} (h0 : -9223372036854775808<=n) (h1:n<=9223372036854775807):IntKind.i64.wrap n=n:=by
 rw[<-ztr]; simp only[wr]; omega
theorem z0nn (hR:Rel tab β h.get w) (hF:zi6 β h h') (hE:EnvR tab β env a) {t e:TypeId}{x y:Operand}{x' y':Opd}{z:List V}{inf:Go.TypeInfo} (ho:o.op=.makeSlice t x y) (hu:P.underlying t=some (.slice e)) (hinf:P.info? e=some inf)
  (hz:zeroCells P e=some z) (hx:cOpd tab x=some x') (hy:cOpd tab y=some y') (hs:sd M (.mkSl inf.size inf.bytes z x' y') env h=some (v,h')):Gw P o a w (Post tab β h w v h') Q:=by
 simp only[sd,step,Option.bind_eq_some_iff] at hs
 obtain⟨ln,hl,cp,hc,p,hp,hs⟩:=hs
 unfold H.mkSl at hp
 split at hp
 ·rename_i hb
  simp only[Bool.and_eq_true,decide_eq_true_eq] at hb
  obtain⟨⟨⟨⟨⟨b1,b2⟩,b3⟩,b4⟩,b5⟩,b6⟩:=hb
  cases hp
  cases hs
  have hxv:=zi3 (zj9 hl) (zu hE hx)
  have hyv:=zi3 (zj9 hc) (zu hE hy)
  obtain⟨zv,hrun,hcc,_⟩:=zim hz tab β
  have hzl:z.length=inf.size:=Nat.eq_of_beq_eq_true b5
  have hzs:zv.cells.size=inf.size:=by have:=RVs.length hcc; simp at this; omega
  have hrel0:=z0e1 hcc cp.toNat _ hzs b6
  obtain⟨hrel,htr⟩:=z03f hR (hF _ (Nat.le_refl _) (by simp)) hrel0 e .rw (.inl rfl) 0 (fun z hz=>by cases hz)
  have wl:IntKind.i64.wrap ln=ln:=z0e9 (by omega) (by omega)
  have wc:IntKind.i64.wrap cp=cp:=z0e9 (by omega) (by omega)
  have hcp0:0<=cp:=by omega
  refine z03 (cv:=.slice (some ⟨w.heap.size,0,none⟩) ln.toNat cp.toNat) ?_ ⟨_,⟨_,zga _ _ _,by simp,by omega⟩,hrel,htr⟩
  have k1:¬(cp<0):=by omega
  have k2:¬((inf.bytes:Int) * cp > 2 ^ 48):=by rw[Int.mul_comm]; omega
  have k3:¬(ln<0):=by omega
  have k4:¬(ln > cp):=by omega
  by_cases h0:cp.toNat * inf.size=0
  ·have hmap:∀f:Nat->Value,(Array.range (cp.toNat * inf.size)).map f = #[]:=by intro f; rw[h0]; simp[show Array.range 0 = #[] from rfl]
   rw[hmap] at hrel htr ⊢
   simp only[Go.execOp,ho,Go.Instr.makeSlice,Sem.run_bind,Go.run_underlying hu,Go.Result.andThen_ok,hxv,hyv,Go.asInt,Go.asIntOf,Sem.run_pure,ze5 hinf,Go.sizeOf,wl,wc,k1,k2,k3,k4,decide_false,Bool.or_self,Bool.false_eq_true,if_false,Go.run_askRoom,if_pos h0,Sem.run_ite,hmap,Go.newRow,Go.run_newObj]
  ·simp only[Go.execOp,ho,Go.Instr.makeSlice,Sem.run_bind,Go.run_underlying hu,Go.Result.andThen_ok,hxv,hyv,Go.asInt,Go.asIntOf,Sem.run_pure,ze5 hinf,Go.sizeOf,wl,wc,k1,k2,k3,k4,decide_false,Bool.or_self,Bool.false_eq_true,if_false,Go.run_askRoom,if_neg h0,Sem.run_ite,hrun,Go.newRow,Go.run_newObj]
 ·cases hp
theorem zr2 {y:Nat}{x:V}{c:Value}{m:Nat} (hx:RV tab β x c) (hb:bound y x=some m):(∀code,(Go.Instr.sliceBound c y code).run P w=.ok m w)/\m<=y:=by
 unfold bound at hb
 split at hb
 ·rename_i i hi
  obtain⟨k,rfl⟩:=z01b hi
  cases hx
  split at hb
  ·rename_i hh; simp at hh; cases hb
   refine⟨fun code => ?_,by omega⟩
   simp[Go.Instr.sliceBound,Go.asIntOf,hh]
  ·cases hb
 ·cases hb
theorem z09j {y z:Nat}{x:V}{m:Nat} (hb:bound y x=some m) (hz:y<=z):bound z x=some m:=by
 unfold bound at hb ⊢
 split at hb
 ·rename_i i hi
  split at hb
  ·rename_i hh; simp at hh; cases hb
   have:(decide (0<=i) && decide (i<=(z:Int)))=true:=by simp; omega
   simp[this]
  ·cases hb
 ·cases hb
theorem zgz {d y:Nat}{x:Option V}{m:Nat} (hb:z2q d y x=some m) (hd:d<=y):m<=y:=by
 cases x with
 | none=>simp only[z2q,Option.some.injEq] at hb; omega
 | some x =>
  simp only[z2q] at hb
  unfold bound at hb
  split at hb
  ·split at hb
   ·rename_i hh; simp at hh; cases hb; omega
   ·cases hb
  ·cases hb
def OptR (tab:Tab) (β:Nat->Option Loc):Option V->Option Value->Prop
 | none,none=>True
 | some x,some c=>RV tab β x c
 | _,_=>False
theorem ztq {isSl:Bool}{len cap:Nat}{lo hi mx:Option V}{clo chi cmx:Option Value} (hlo:OptR tab β lo clo) (hhi:OptR tab β hi chi) (hmx:OptR tab β mx cmx)
  (hn:mx.isSome=true->hi.isSome=true) {m hh l:Nat} (h1:z2q cap cap mx=some m) (h2:z2q len m hi=some hh) (h3:z2q 0 hh lo=some l) :
  (Go.Instr.sliceBounds isSl len cap clo chi cmx).run P w=.ok (l,hh,m) w:=by
 cases mx with
 | none =>
  cases cmx with
  | some c=>exact hmx.elim
  | none =>
   simp only[z2q,Option.some.injEq] at h1; subst h1
   cases hi with
   | none =>
    cases chi with
    | some c=>exact hhi.elim
    | none =>
     simp only[z2q,Option.some.injEq] at h2; subst h2
     cases lo with
     | none =>
      cases clo with
      | some c=>exact hlo.elim
      | none=>simp only[z2q,Option.some.injEq] at h3; subst h3; simp[Go.Instr.sliceBounds]
     | some x =>
      cases clo with
      | none=>exact hlo.elim
      | some c=>simp[Go.Instr.sliceBounds,(zr2 (P:=P) (w:=w) hlo h3).1]
   | some u =>
    cases chi with
    | none=>exact hhi.elim
    | some cu =>
     have hu:=(zr2 (P:=P) (w:=w) hhi h2).1
     cases lo with
     | none =>
      cases clo with
      | some c=>exact hlo.elim
      | none=>simp only[z2q,Option.some.injEq] at h3; subst h3; simp[Go.Instr.sliceBounds,hu]
     | some x =>
      cases clo with
      | none=>exact hlo.elim
      | some c=>simp[Go.Instr.sliceBounds,hu,(zr2 (P:=P) (w:=w) hlo h3).1]
 | some X =>
  cases cmx with
  | none=>exact hmx.elim
  | some cx =>
   have hX:=(zr2 (P:=P) (w:=w) hmx h1).1
   cases hi with
   | none=>exact absurd (hn rfl) (by simp)
   | some u =>
    cases chi with
    | none=>exact hhi.elim
    | some cu =>
     have hu:=(zr2 (P:=P) (w:=w) hhi h2).1
     cases lo with
     | none =>
      cases clo with
      | some c=>exact hlo.elim
      | none=>simp only[z2q,Option.some.injEq] at h3; subst h3; simp[Go.Instr.sliceBounds,hX,hu]
     | some x =>
      cases clo with
      | none=>exact hlo.elim
      | some c=>simp[Go.Instr.sliceBounds,hX,hu,(zr2 (P:=P) (w:=w) hlo h3).1]
theorem z0a9 (hE:EnvR tab β env a) {x:Option Operand}{x':Option Opd} (h:(match x with | none=>some none | some y=>(cOpd tab y).map some:Option (Option Opd))=some x'):OptR tab β (x'.map (opd env)) (x.map a.eval)/\(x'.isSome=x.isSome):=by
 cases x with
 | none=>simp at h; subst h; exact⟨trivial,rfl⟩
 | some y =>
  obtain⟨z,hz,rfl⟩:=Option.map_eq_some_iff.mp h
  exact⟨zu hE hz,rfl⟩
theorem z0mv (hR:Rel tab β h.get w) (hE:EnvR tab β env a) {t e:TypeId}{x:Operand}{x':Opd}{lo hi mx:Option Operand}{lo' hi' mx':Option Opd}{inf:Go.TypeInfo} (ho:o.op=.slice t x lo hi mx) (hu:P.underlying t=some (.slice e)) (hinf:P.info? e=some inf)
  (hx:cOpd tab x=some x') (h1:OptR tab β (lo'.map (opd env)) (lo.map a.eval)) (h2:OptR tab β (hi'.map (opd env)) (hi.map a.eval)) (h3:OptR tab β (mx'.map (opd env)) (mx.map a.eval)) (hn:(mx'.isSome && hi'.isNone)=false)
  (hs:sd M (.slice (P.cellsOf e) x' lo' hi' mx') env h=some (v,h')):Gw P o a w (Post tab β h w v h') Q:=by
 simp only[sd,step,Option.bind_eq_some_iff,Option.some.injEq,Prod.mk.injEq] at hs
 obtain⟨u,hsl,rfl,rfl⟩:=hs
 have hn':(mx'.map (opd env)).isSome=true->(hi'.map (opd env)).isSome=true:=by
  cases mx' <;> cases hi' <;> simp at hn ⊢
 have hcz:P.cellsOf e=inf.size:=by simp[Program.cellsOf,hinf]
 have hxr:=zu hE hx
 generalize lo'.map (opd env)=L at *
 generalize hi'.map (opd env)=U at *
 generalize mx'.map (opd env)=X at *
 have fin:∀(base:Option Addr) (len cap l hh m:Nat) (cv:Value),a.eval x=.slice base len cap->(Go.Instr.sliceBounds true len cap (lo.map a.eval) (hi.map a.eval) (mx.map a.eval)).run P w=.ok (l,hh,m) w ->
   cv=.slice (if m=l then base else base.map (·.add (l * inf.size))) (hh-l) (m-l)->RV tab β u cv->Gw P o a w (Post tab β h w u h) Q:=by
  intro base len cap l hh m cv hxv hb hcv hr
  refine z03 (cv:=cv) (w':=w) ?_ (z0b hr hR)
  have hun:∀n e',P.underlying t≠some (.array n e'):=by intro n e' he; rw[hu] at he; cases he
  simp only[Go.execOp,ho,Go.Instr.sliceAt,Sem.run_bind,Go.run_underlying hu,Go.Result.andThen_ok,Go.Instr.slice,hxv,hb,Go.sizeOf,ze5 hinf,Sem.run_pure,hcv]
 unfold zgq at hsl
 split at hsl
 ·rename_i e1
  rw[e1] at hxr
  split at hsl
  ·rename_i m' hh' l' q1 q2 q3
   cases hsl
   have z1:m'=0:=Nat.le_zero.mp (zgz q1 (Nat.le_refl _))
   have z2:hh'=0:=Nat.le_zero.mp (zgz q2 (Nat.le_refl _))
   have z3:l'=0:=Nat.le_zero.mp (zgz q3 (Nat.le_refl _))
   subst z1; subst z2; subst z3
   have hb:=ztq (P:=P) (w:=w) (isSl:=true) (len:=0) (cap:=0) h1 h2 h3 hn' q1 q2 q3
   exact fin none 0 0 0 0 0 _ hxr hb rfl rfl
  ·cases hsl
 ·rename_i b off len c e1
  rw[e1] at hxr
  obtain⟨l,hl,hxv,hlc⟩:=hxr
  split at hsl
  ·cases hsl
  ·rename_i m q1
   split at hsl
   ·cases hsl
   ·rename_i hh q2
    split at hsl
    ·cases hsl
    ·rename_i lw q3
     cases hsl
     have hb:=ztq (P:=P) (w:=w) (isSl:=true) (len:=len) (cap:=c) h1 h2 h3 hn' q1 q2 q3
     have hhm:hh<=m:=by
      cases X with
      | none=>simp only[z2q,Option.some.injEq] at q1; subst q1; exact zgz q2 hlc
      | some X =>
       cases U with
       | none=>exact absurd (hn' rfl) (by simp)
       | some U=>exact zgz (d:=0) (x:=some U) q2 (Nat.zero_le _)
     refine fin _ len c lw hh m _ hxv hb rfl ?_
     cases hml:Nat.beq m lw with
     | true =>
      have hml:=Nat.eq_of_beq_eq_true hml
      exact⟨l,hl,by simp[hml],by omega⟩
     | false =>
      have hml:=Nat.ne_of_beq_eq_false hml
      refine⟨l,hl,?_,by omega⟩
      rw[if_neg hml,hcz]
      simp only[Option.map_some,zhw]
      congr 3; omega
 ·rename_i b off len z e1
  rw[e1] at hxr
  obtain⟨l,c,A,hl,hxv,hlc,hA,hO,hsz,hez⟩:=hxr
  split at hsl
  ·cases hsl
  rename_i hzb
  have hze:=Nat.eq_of_beq_eq_true hzb
  subst hze
  split at hsl
  ·split at hsl
   ·cases hsl
   ·rename_i hh q2
    split at hsl
    ·cases hsl
    ·rename_i lw q3
     cases hsl
     have hle:hh<=len:=zgz q2 (Nat.le_refl _)
     have hlw:lw<=hh:=zgz q3 (Nat.zero_le _)
     have q2':z2q len c U=some hh:=by
      cases U with
      | none=>exact q2
      | some U=>exact z09j q2 hlc
     have hb:=ztq (P:=P) (w:=w) (isSl:=true) (len:=len) (cap:=c) h1 h2 h3 hn' (show z2q c c none=some c from rfl) q2' q3
     refine fin _ len c lw hh c _ hxv hb rfl ?_
     by_cases hcl:c=lw
     ·subst hcl
      rw[if_pos rfl]
      have:hh=c:=by omega
      subst this
      refine⟨l,0,A,hl,by simp,by omega,fun h=>by omega,fun h=>by omega,by omega,hez⟩
     ·rw[if_neg hcl]
      have hA:=hA (by omega)
      obtain⟨B,O,sp⟩:=A
      simp only[Addr.mk.injEq,true_and] at hA
      obtain⟨rfl,rfl⟩:=hA
      refine⟨l,c-lw,⟨l.blk,O+lw * inf.size,none⟩,hl,by simp only[Option.map_some,zhw],by omega,fun _=>rfl,fun hlt => ?_,?_,hez⟩
      ·have:=hO (by omega); simp only at this; show O+lw * inf.size=_; rw[hcz]; omega
      ·show O+lw * inf.size+_<=_
       simp only at hsz
       rw[<-hcz]
       have:(c-lw) * P.cellsOf e+lw * P.cellsOf e=c * P.cellsOf e:=by rw[<-Nat.add_mul]; congr 1; omega
       omega
  ·rename_i X'
   split at hsl
   ·rename_i m q1 q0
    split at hsl
    ·cases hsl
    ·rename_i hh q2
     split at hsl
     ·cases hsl
     ·rename_i lw q3
      cases hsl
      have hml:m<=len:=zgz q1 (Nat.le_refl _)
      have hlw:lw<=hh:=zgz q3 (Nat.zero_le _)
      have hb:=ztq (P:=P) (w:=w) (isSl:=true) (len:=len) (cap:=c) h1 h2 h3 hn' (show z2q c c (some X')=some m from z09j q1 hlc) q2 q3
      have hU:U.isSome=true:=hn' rfl
      have hhm:hh<=m:=by
       cases U with
       | none=>simp at hU
       | some U=>exact zgz (d:=0) (x:=some U) q2 (Nat.zero_le _)
      refine fin _ len c lw hh m _ hxv hb rfl ?_
      have hOo:=hO (by have:=Nat.ne_of_beq_eq_false q0; omega)
      have hA:=hA (by have:=Nat.ne_of_beq_eq_false q0; omega)
      obtain⟨B,O,sp⟩:=A
      simp only[Addr.mk.injEq,true_and] at hA
      obtain⟨rfl,rfl⟩:=hA
      simp only at hOo
      cases hmb:Nat.beq m lw with
      | true =>
       have hme:=Nat.eq_of_beq_eq_true hmb
       exact⟨l,hl,by simp[hme,hOo],by omega⟩
      | false =>
       have hme:=Nat.ne_of_beq_eq_false hmb
       refine⟨l,hl,?_,by omega⟩
       rw[if_neg hme,hcz,hOo]
       simp only[Option.map_some,zhw]
       congr 3; omega
   ·cases hsl
 ·cases hsl
end
end Wm
