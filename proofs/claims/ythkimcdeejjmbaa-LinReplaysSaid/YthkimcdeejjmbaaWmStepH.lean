/- Each operation of my machine, as the model carries it out: append, copy, strings. -/
import Derived.Test.YthkimcdeejjmbaaWmStepG
import Derived.Laws.Append
set_option linter.all false
namespace Wm
open Go (Value Addr World Obj Program IntKind TypeId Oper Operand Act Exit Sem TypeDesc)
section
variable {P:Program}{tab:Tab}{β:Nat->Option Loc}{h h':H}{w:World}{env:List V}{a:Act}{o:Oper}{v:V}{Q:Exit->Act->World->Prop}{M:Env}
theorem Rel.drew (hR:Rel tab β h.get w) (n:Nat):Rel tab β h.get { w with drawn:=n }:=by
 refine⟨fun b x hb => ?_,hR.sep⟩
 obtain⟨l,hl,hB⟩:=hR.blk b x hb
 exact⟨l,hl,hB.keep (Ext.refl _) (Nat.le_refl _) rfl⟩
theorem z0bn (need:Nat):∀(r c:Nat),c<=need+need / 4+200->Go.Builtin.growBy need r c<=need+need / 4+200
 | 0,c,h=>h
 | r+1,c,h=>by
  unfold Go.Builtin.growBy
  split
  ·exact h
  ·exact z0bn need r _ (by omega)
theorem z0h6 {need cap:Nat} (h:cap<need):Go.Builtin.nextslicecap need cap<=need+need / 2+1000:=by
 unfold Go.Builtin.nextslicecap
 split
 ·omega
 ·split
  ·omega
  ·have:=z0bn need 4 cap (by omega); omega
def Cells (P:Program) (w:World) (esz n:Nat) (c:Value) (d:List Value):Prop:=∀k,(Go.Builtin.firstCells esz n c).run P { w with drawn:=k }=.ok d.toArray { w with drawn:=k }
theorem z088 (hR:Rel tab β h.get w) {esz n:Nat}{x:V}{c:Value}{cs:List V} (hx:RV tab β x c) (hn:lenSl x=some n) (hs:h.slc esz x=some cs) :
  ∃base cap d,c=.slice base n cap/\Cells P w esz n c d/\RVs tab β cs d/\d.length=n * esz:=by
 unfold H.slc at hs
 unfold lenSl at hn
 split at hs
 ·cases hs; simp at hn; subst hn
  cases hx
  exact⟨none,0,[],rfl,fun k=>by simp[Go.Builtin.firstCells],rfl,by simp⟩
 ·rename_i b off n' cap
  simp at hn; subst hn
  obtain⟨l,O,cc,hl,rfl,_,hO,_,_⟩:=z012 hx
  obtain⟨hlen,d,hd,hcell⟩:=z078 hR hl hs
  refine⟨_,cc,d,rfl,fun k => ?_,hd,by rw[<-RVs.length hd]; exact hlen⟩
  simp only[Go.Builtin.firstCells]
  rcases Nat.eq_zero_or_pos n' with h0 | hpos
  ·subst h0
   have hd0:d=[]:=List.eq_nil_of_length_eq_zero (by rw[<-RVs.length hd,hlen]; simp)
   subst hd0
   simp[Go.loadCells,Go.loadCellsFrom]
  ·rw[hO hpos]
   exact z015 (by rw[<-RVs.length hd]; exact hlen) fun j c hj=>hcell j c hj
 ·cases hs
theorem z0c8 (zero:Array Value) (n:Nat):(Go.Builtin.zeroCells zero n).size=n * zero.size:=by
 simp[Go.Builtin.zeroCells]
theorem zxt {c:Go.Call}{t u:TypeId}{x y:Operand} (ho:o.op=.call c) (hcal:c.callee=.builtin .append) (hargs:c.args = #[x,y]) (htys:c.argTypes = #[t,u]) :
  (Go.execOp a.eval o).run P w=((Go.Builtin.append_ #[t,u] o.type #[a.eval x,a.eval y]).run P w).andThen fun v w'=>.ok (.value v) w':=by
 simp[Go.execOp,ho,Go.resolve,hcal,hargs,htys,Go.invoke,Go.builtin]
theorem zx3 {t u e eu:TypeId}{base b2:Option Addr}{len cap n cs:Nat}{inf:Go.TypeInfo}{ty:TypeId}{d:List Value} (hu:P.underlying t=some (.slice e)) (hv:P.underlying u=some (.slice eu)) (hinf:P.info? e=some inf)
  (hd:Cells P w inf.size n (.slice b2 n cs) d) (hle:len+n<=cap) :
  (Go.Builtin.append_ #[t,u] ty #[.slice base len cap,.slice b2 n cs]).run P w =
   match base with
   | some a=>((Go.storeCells (a.add (len * inf.size)) d).run P w).andThen fun _ w2=>.ok (.slice base (len+n) cap) w2
   | none=>.ok (.slice base (len+n) cap) w:=by
 have hd0:(Go.Builtin.firstCells inf.size n (.slice b2 n cs)).run P w=.ok d.toArray w:=hd w.drawn
 cases base with
 | none=>simp[Go.Builtin.append_,Go.run_underlying hu,Go.run_underlying hv,Go.sizeOf,Go.typeInfo,hinf,Go.Builtin.lenOf,hle,hd0]
 | some b=>simp[Go.Builtin.append_,Go.run_underlying hu,Go.run_underlying hv,Go.sizeOf,Go.typeInfo,hinf,Go.Builtin.lenOf,hle,hd0]
theorem z0ak {t u e eu:TypeId}{base b2:Option Addr}{len cap n cs:Nat}{inf:Go.TypeInfo}{ty:TypeId}{old d:List Value}{z:Value} (hu:P.underlying t=some (.slice e)) (hv:P.underlying u=some (.slice eu)) (hinf:P.info? e=some inf)
  (hz:∀w,(Go.zeroValue e).run P w=.ok z w) (hold:Cells P w inf.size len (.slice base len cap) old) (hd:Cells P w inf.size n (.slice b2 n cs) d) (hlt:cap<len+n) (hb:0<inf.bytes) (hfit:(len+n+(len+n) / 2+1000) * inf.bytes<=281474976710656) :
  ∃nc,len+n<=nc/\(Go.Builtin.append_ #[t,u] ty #[.slice base len cap,.slice b2 n cs]).run P w =
   .ok (.slice (some ⟨w.heap.size,0,none⟩) (len+n) nc) (w.drew.alloc (.cells (old.toArray ++ d.toArray ++ Go.Builtin.zeroCells z.cells (nc-(len+n))) e)):=by
 have h1:¬(len+n<=cap):=by omega
 have h2:¬(inf.bytes=0):=by omega
 have hm:Go.Builtin.nextslicecap (len+n) cap * inf.bytes<=(len+n+(len+n) / 2+1000) * inf.bytes:=Nat.mul_le_mul_right _ (z0h6 hlt)
 have h3:¬(Go.Builtin.nextslicecap (len+n) cap * inf.bytes > 2 ^ 48):=by omega
 have ho:(Go.Builtin.firstCells inf.size len (.slice base len cap)).run P w.drew=.ok old.toArray w.drew:=hold (w.drawn+1)
 have hn:(Go.Builtin.firstCells inf.size n (.slice b2 n cs)).run P w.drew=.ok d.toArray w.drew:=hd (w.drawn+1)
 refine⟨Go.grownCap w (len+n) cap e,Nat.le_add_right _ _,?_⟩
 have h3':¬(281474976710656<Go.Builtin.nextslicecap (len+n) cap * inf.bytes):=by omega
 simp[Go.Builtin.append_,Go.run_underlying hu,Go.run_underlying hv,Go.sizeOf,Go.typeInfo,hinf,Go.Builtin.lenOf,h1,h2,h3',Go.Question.forced,ho,hn,hz,Go.newRow,Go.grownCap,Array.append_assoc]
 rw[<-Array.append_assoc]
 simp
theorem z0j0 (hR:Rel tab β h.get w) (hf:β h.next=none) {h0:H} (hnext:h0.next=h.next) (hsub:∀b x,h0.get b=some x->h.get b=some x) {cs:List V}{old d rest:List Value} (hc:RVs tab β cs (old ++ d)) (e:TypeId) (esz:Nat) :
  let w':={ w with drawn:=w.drawn+1,heap:=w.heap.push (.cells (old.toArray ++ d.toArray ++ rest.toArray) e) }
  let β':=upd β h.next ⟨w.heap.size,0,(old ++ d ++ rest).length,esz⟩
  Rel tab β' (h0.new (.cells cs (.gr esz))).get w'/\Tr β β' h (h0.new (.cells cs (.gr esz))) w w':=by
 intro w' β'
 have hR0:Rel tab β h0.get { w with drawn:=w.drawn+1 }:=(hR.drew _).anti hsub
 have hf0:β h0.next=none:=by rw[hnext]; exact hf
 have hlen:=RVs.length hc
 have hnew:=z03n hR0 hf0 (.cells cs (.gr esz)) (.cells (old.toArray ++ d.toArray ++ rest.toArray) e) ⟨w.heap.size,0,(old ++ d ++ rest).length,esz⟩ rfl rfl (by
  refine⟨by simp,fun i v hv => ?_,fun _=>⟨old.toArray ++ d.toArray ++ rest.toArray,e,by simp,by simp,by simp at hlen ⊢; omega⟩,fun z hz=>by cases hz; rfl⟩
  obtain⟨x,hx,hxr⟩:=RVs.get hc i v hv
  refine⟨x,?_,RV.mono (z029 hf0) v x hxr⟩
  have:i<(old ++ d).length:=by
   rcases Nat.lt_or_ge i (old ++ d).length with q | q
   ·exact q
   ·rw[List.getElem?_eq_none q] at hx; cases hx
  simp only[World.cell?,Array.getElem?_push_size,Nat.add_zero]
  have hx2:(old.toArray ++ d.toArray ++ rest.toArray)[i]?=some x:=by
   have:=List.getElem?_append_left (l₂:=rest) this
   rw[<-hx,<-this]
   simp
  simpa using hx2)
 rw[hnext] at hnew
 obtain⟨g1,g2⟩:=hnew
 refine⟨g1,g2.ext,fun b hb => ?_,by simp[hnext],g2.os,g2.tape,g2.output,g2.size,fun B hB hn=>g2.frame B hB fun b x l hb hx hl=>hn b x l (hsub b x hb) hx hl,fun b x l hb hl => ?_⟩
 ·rcases g2.dom b hb with q | q
  ·exact .inl q
  ·exact .inr (by rw[<-hnext]; exact q)
 ·rcases g2.img b x l hb hl with q | ⟨b0,x0,l0,q1,q2,q3,q4⟩
  ·exact .inl q
  ·exact .inr ⟨b0,x0,l0,hsub _ _ q1,q2,q3,q4⟩
theorem z0jc (hR:Rel tab β h.get w) (hf:β h.next=none) {b esz:Nat}{l:Loc}{cs vs:List V}{old d:List Value} (hb:β b=some l) (hg:∃all,h.get b=some (.cells all (.gr esz))) {O:Nat}
  (hold:RVs tab β cs old) (hcell:∀j c,old[j]?=some c->w.cell? ⟨l.blk,O+j,none⟩=some c) (hd:RVs tab β vs d) (hone:vs.all V.one=true) (hroom:O+old.length+d.length<=l.size) :
  ∃w',(Go.storeCells ⟨l.blk,O+old.length,none⟩ d).run P w=.ok () w' /\
   Rel tab (upd β h.next ⟨l.blk,O,l.size,esz⟩) ((h.put b none).new (.cells (cs ++ vs) (.gr esz))).get w'/\Tr β (upd β h.next ⟨l.blk,O,l.size,esz⟩) h ((h.put b none).new (.cells (cs ++ vs) (.gr esz))) w w':=by
 obtain⟨all,hg⟩:=hg
 obtain⟨l',hl',hB⟩:=hR.blk b _ hg
 rw[hb] at hl'; cases hl'
 obtain⟨h0,h1,h2,h3⟩:=hB
 obtain⟨c,e,hc,hcs,hcl⟩:=h2 (by intro e; cases e)
 have hrun:=Go.run_storeCells_at (P:=P) l.blk (O+old.length) e d 0 c w hc (by omega) (z0gm hd hone)
 simp only[Nat.add_zero] at hrun
 refine⟨_,hrun,?_⟩
 have hnew:=Go.setRow_heap w l.blk c (c.toList.take (O+old.length) ++ d ++ c.toList.drop (O+old.length+d.length)).toArray e (0,0) hc
 have hoth:∀B,B≠l.blk->(w.setRow l.blk (c.toList.take (O+old.length) ++ d ++ c.toList.drop (O+old.length+d.length)).toArray).heap[B]?=w.heap[B]?:=fun B hB=>Go.setRow_other w l.blk B _ hB
 have hsz:(w.setRow l.blk (c.toList.take (O+old.length) ++ d ++ c.toList.drop (O+old.length+d.length)).toArray).heap.size=w.heap.size:=by simp
 generalize hW:w.setRow l.blk (c.toList.take (O+old.length) ++ d ++ c.toList.drop (O+old.length+d.length)).toArray=w' at *
 have hext:=z029 (l:=(⟨l.blk,O,l.size,esz⟩:Loc)) hf
 have hbn:b≠h.next:=fun e=>by rw[e] at hb; rw[hf] at hb; cases hb
 have getn:∀q x,((h.put b none).new (.cells (cs ++ vs) (.gr esz))).get q=some x->(q=h.next/\x=.cells (cs ++ vs) (.gr esz))\/(q≠h.next/\q≠b/\h.get q=some x):=by
  intro q x hq
  rw[H.get_new] at hq
  have hq:(if q=h.next then some (Blk.cells (cs ++ vs) (Bk.gr esz)) else (h.put b none).get q)=some x:=hq
  by_cases e1:q=h.next
  ·rw[if_pos e1] at hq; cases hq; exact .inl ⟨e1,rfl⟩
  ·rw[if_neg e1,H.get_put] at hq
   by_cases e2:q=b
   ·rw[if_pos e2] at hq; cases hq
   ·rw[if_neg e2] at hq; exact .inr ⟨e1,e2,hq⟩
 have hlo:=RVs.length hold
 have hlv:=RVs.length hd
 have hnewR:BlkR tab (upd β h.next ⟨l.blk,O,l.size,esz⟩) w' ⟨l.blk,O,l.size,esz⟩ (.cells (cs ++ vs) (.gr esz)):=by
  refine⟨by show l.blk<_; omega,fun i v hv => ?_,fun _=>⟨_,e,hnew,?_,?_⟩,fun z hz=>by cases hz; rfl⟩
  ·have hcl':w'.cell? ⟨l.blk,i+O,none⟩=(c.toList.take (O+old.length) ++ d ++ c.toList.drop (O+old.length+d.length))[i+O]?:=by
    simp only[World.cell?,hnew]; simp
   have hlt1:(c.toList.take (O+old.length)).length=O+old.length:=by rw[List.length_take]; simp; omega
   show ∃x,w'.cell? ⟨l.blk,i+O,none⟩=some x/\_
   rw[hcl']
   by_cases p1:i<cs.length
   ·rw[List.getElem?_append_left p1] at hv
    obtain⟨x,hx,hr⟩:=RVs.get hold i v hv
    refine⟨x,?_,RV.mono hext v x hr⟩
    rw[List.append_assoc,List.getElem?_append_left (by omega),List.getElem?_take,if_pos (by omega)]
    have:=hcell i x hx
    simp only[World.cell?,hc] at this
    rw[Nat.add_comm]; simpa using this
   ·rw[List.getElem?_append_right (by omega)] at hv
    obtain⟨x,hx,hr⟩:=RVs.get hd _ v hv
    refine⟨x,?_,RV.mono hext v x hr⟩
    have hlt:i-cs.length<d.length:=by
     rcases Nat.lt_or_ge (i-cs.length) d.length with q | q
     ·exact q
     ·rw[List.getElem?_eq_none q] at hx; cases hx
    rw[List.append_assoc,List.getElem?_append_right (by omega),List.getElem?_append_left (by omega),<-hx]
    congr 1; omega
  ·show _=l.size; simp; omega
  ·show(cs ++ vs).length+O<=_; simp; omega
 refine⟨⟨fun q x hq => ?_,fun q x q' x' m m' hq hq' hne hm hm' hx => ?_⟩,⟨hext,fun q hq => ?_,by simp,by rw[<-hW]; rfl,by rw[<-hW]; rfl,by rw[<-hW]; rfl,by omega,fun B hB hn => ?_,fun q x m hq hm => ?_⟩⟩
 ·rcases getn q x hq with ⟨rfl,rfl⟩ | ⟨e1,e2,hq⟩
  ·exact⟨_,zga _ _ _,hnewR⟩
  ·obtain⟨m,hm,hM⟩:=hR.blk q x hq
   refine⟨m,hext q m hm,hM.keep hext (by omega) (hoth _ ?_)⟩
   exact fun e=>hR.sep b _ q x l m hg hq (fun e=>e2 e.symm) hb hm rfl e.symm
 ·have other:∀q x m,q≠h.next->q≠b->h.get q=some x->upd β h.next ⟨l.blk,O,l.size,esz⟩ q=some m->m.blk≠l.blk:=by
   intro q x m e1 e2 hq hm
   unfold upd at hm; rw[if_neg e1] at hm
   exact fun e=>hR.sep b _ q x l m hg hq (fun e=>e2 e.symm) hb hm rfl e.symm
  rcases getn q x hq with ⟨rfl,rfl⟩ | ⟨e1,e2,hq⟩
  ·rcases getn q' x' hq' with ⟨e,_⟩ | ⟨e1',e2',hq'⟩
   ·exact absurd e.symm hne
   ·rw[zga] at hm; cases hm
    exact fun e=>other q' x' m' e1' e2' hq' hm' e.symm
  ·rcases getn q' x' hq' with ⟨rfl,rfl⟩ | ⟨e1',e2',hq'⟩
   ·rw[zga] at hm'; cases hm'
    exact other q x m e1 e2 hq hm
   ·unfold upd at hm hm'; rw[if_neg e1] at hm; rw[if_neg e1'] at hm'
    exact hR.sep q x q' x' m m' hq hq' hne hm hm' hx
 ·simp only[upd,ne_eq] at hq
  split at hq
  ·rename_i e; exact .inr ⟨by omega,by simp; omega⟩
  ·exact .inl hq
 ·exact hoth B fun e=>hn b _ l hg rfl hb e.symm
 ·rcases getn q x hq with ⟨rfl,rfl⟩ | ⟨e1,e2,hq⟩
  ·rw[zga] at hm; cases hm
   exact .inr ⟨b,_,l,hg,hb,rfl,fun _=>rfl⟩
  ·unfold upd at hm; rw[if_neg e1] at hm
   exact .inr ⟨q,x,m,hq,hm,rfl,id⟩
theorem z0k5 (hR:Rel tab β h.get w) (hF:zi6 β h h') (hE:EnvR tab β env a) {c:Go.Call}{t u e eu:TypeId}{x y:Operand}{x' y':Opd}{inf:Go.TypeInfo}{z:List V} (ho:o.op=.call c) (hcal:c.callee=.builtin .append) (hargs:c.args = #[x,y]) (htys:c.argTypes = #[t,u])
    (hu:P.underlying t=some (.slice e)) (hv:P.underlying u=some (.slice eu)) (hinf:P.info? e=some inf) (hz:zeroCells P e=some z) (hzl:z.length=inf.size) (hx:cOpd tab x=some x') (hy:cOpd tab y=some y')
    (hs:sd M (.append inf.size inf.bytes x' y') env h=some (v,h')):Gw P o a w (Post tab β h w v h') Q:=by
  simp only[sd,step,Option.bind_eq_some_iff,Option.some.injEq] at hs
  obtain⟨⟨v0,h0⟩,hp,he⟩:=hs
  cases he
  unfold H.append at hp
  split at hp
  · rename_i n new len old hn hnew hlen hold
    split at hp
    · cases hp
    rename_i hcond
    simp only[Bool.and_eq_true,decide_eq_true_eq] at hcond
    obtain⟨⟨⟨hone,hfit⟩,hpos⟩,hbytes⟩:=hcond
    have hxr:=zu hE hx
    have hyr:=zu hE hy
    obtain⟨b2,cc2,d,hyv,hdC,hdR,hdl⟩:=z088 (P:=P) hR hyr hn hnew
    obtain⟨zv,hzrun,hzrel,_⟩:=zim hz tab β
    have hzs:zv.cells.size=inf.size:=by have:=RVs.length hzrel; simp at this; omega
    have hlen2:=RVs.length hdR
    -- the way by a new row
    have grow:∀(base:Option Addr) (cap:Nat) (od:List Value),a.eval x=.slice base len cap->Cells P w inf.size len (.slice base len cap) od->RVs tab β old od->od.length=len * inf.size->cap<len+n->∀(h1:H),h1.next=h.next->(∀b x,h1.get b=some x->h.get b=some x) ->
        v0=.sl h.next 0 (len+n) (.op inf.size)->h0=h1.new (.cells (old ++ new) (.gr inf.size))->Gw P o a w (Post tab β h w v0 h0) Q:=by
      intro base cap od hxv hoC hoR hol hlt h1 hn1 hsub hv0 hh0
      subst hv0; subst hh0
      obtain⟨nc,hnc,hrun⟩:=z0ak (P:=P) (w:=w) (ty:=o.type) (cs:=cc2) (b2:=b2) hu hv hinf hzrun hoC (by rw[<-hyv]; exact hdC) hlt hbytes hfit
      have hfn:β h.next=none:=hF _ (Nat.le_refl _) (by simp[hn1])
      obtain⟨g1,g2⟩:=z0j0 hR hfn hn1 hsub (rest:=(Go.Builtin.zeroCells zv.cells (nc-(len+n))).toList) (RVs.append hoR hdR) e inf.size
      simp only[Array.toArray_toList] at g1 g2
      refine z03 (cv:=.slice (some ⟨w.heap.size,0,none⟩) (len+n) nc) ?_ ⟨_,⟨_,nc,⟨w.heap.size,0,none⟩,zga _ _ _,rfl,hnc,fun _=>rfl,fun _=>by simp,?_,rfl⟩,g1,g2⟩
      · rw[zxt ho hcal hargs htys,hxv,hyv,hrun]
        rfl
      · have hzz:=z0c8 zv.cells (nc-(len+n))
        simp only[List.length_append,Array.length_toList,hol,hdl,hzz,hzs]
        have:len * inf.size+n * inf.size+(nc-(len+n)) * inf.size=nc * inf.size:=by rw[<-Nat.add_mul,<-Nat.add_mul]; congr 1; omega
        omega
    split at hp
    · -- an exact capacity
      rename_i b off len' c' e1
      rw[e1] at hlen hold hxr
      simp only[lenSl,Option.some.injEq] at hlen; subst hlen
      obtain⟨l,hl,hxv,hlc⟩:=hxr
      split at hp
      · rename_i hle; simp at hle
        split at hp
        · rename_i h2 hst
          cases hp
          obtain⟨w',hrun,hrel,htr⟩:=z0an (P:=P) hR hl hdR hst
          refine z03 (cv:=.slice (some ⟨l.blk,off+l.sh,none⟩) (len'+n) c') ?_ ⟨β,⟨l,hl,rfl,hle⟩,hrel,htr⟩
          rw[zxt ho hcal hargs htys,hxv,hyv,zx3 (P:=P) hu hv hinf (by rw[<-hyv]; exact hdC) hle]
          simp only[zhw]
          have:off+l.sh+len' * inf.size=off+len' * inf.size+l.sh:=by omega
          rw[this,hrun]
          rfl
        · cases hp
      · rename_i hle; simp at hle
        cases hp
        obtain⟨bo,cco,od,hxv2,hoC,hoR,hol⟩:=z088 (P:=P) (c:=.slice (some ⟨l.blk,off+l.sh,none⟩) len' c') hR (x:=.sl b off len' (.ex c')) ⟨l,hl,rfl,hlc⟩ rfl hold
        cases hxv2
        exact grow _ _ od hxv hoC hoR hol (by omega) h rfl (fun _ _ q=>q) rfl rfl
    · -- an open one
      rename_i b off len' z' e1
      rw[e1] at hlen hold hxr
      simp only[lenSl,Option.some.injEq] at hlen; subst hlen
      split at hp
      · rename_i all ez hg
        split at hp
        · rename_i hez
          have hez:=Nat.eq_of_beq_eq_true hez
          subst hez
          cases hp
          have hxr0:=hxr
          obtain⟨l,cap,A,hl,hxv,hlc,hA,hO,hsz,hlz⟩:=hxr
          have hlesz:l.esz=inf.size:=by
            obtain⟨l',hl',hB⟩:=hR.blk b _ hg
            rw[hl] at hl'; cases hl'
            exact hB.2.2.2 _ rfl
          have hzz:z'=inf.size:=by omega
          subst hzz
          rw[hxv] at hxr0
          obtain⟨bo,cco,od,hxv2,hoC,hoR,hol⟩:=z088 (P:=P) hR hxr0 rfl hold
          cases hxv2
          have hfn:β h.next=none:=hF _ (Nat.le_refl _) (by simp)
          by_cases hle:len'+n<=cap
          · have hcellO:∀j c,od[j]?=some c->w.cell? ⟨l.blk,A.off+j,none⟩=some c:=by
              intro j c hj
              obtain⟨hll,dd,hdd,hcc⟩:=z078 hR hl hold
              have hne:0<len':=by
                rcases Nat.eq_zero_or_pos len' with q | q
                · subst q
                  have:od.length=0:=by rw[hol]; simp
                  rw[List.eq_nil_of_length_eq_zero this] at hj; simp at hj
                · exact q
              have hOO:=hO hne
              have hAA:=hA (by omega)
              have hrun2:=hoC w.drawn
              simp only[Go.Builtin.firstCells] at hrun2
              rw[hAA] at hrun2
              have hrun3:=z015 (P:=P) (w:=w) (B:=l.blk) (O:=A.off) (d:=dd) (n:=len' * inf.size) (by rw[<-RVs.length hdd,hll]) (fun j c hj=>by rw[hOO]; exact hcc j c hj)
              rw[hrun3] at hrun2
              simp only[Go.Result.ok.injEq] at hrun2
              have:dd=od:=by have:=congrArg Array.toList hrun2.1; simpa using this
              subst this
              rw[hOO]; exact hcc j c hj
            obtain⟨w',hrun,hrel,htr⟩:=z0jc (P:=P) hR hfn hl ⟨all,hg⟩ (O:=A.off) hoR hcellO hdR hone (by
              rw[hol,hdl]
              have:(len'+n) * inf.size<=cap * inf.size:=Nat.mul_le_mul_right _ hle
              rw[Nat.add_mul] at this
              omega)
            refine z03 (cv:=.slice (some A) (len'+n) cap) ?_ ⟨_,⟨⟨l.blk,A.off,l.size,inf.size⟩,cap,A,zga _ _ _,rfl,hle,hA,fun _=>(Nat.zero_add _).symm,hsz,rfl⟩,hrel,htr⟩
            rw[zxt ho hcal hargs htys,hxv,hyv,zx3 (P:=P) hu hv hinf (by rw[<-hyv]; exact hdC) hle]
            have hst:(Go.storeCells (A.add (len' * inf.size)) d).run P w=(Go.storeCells ⟨l.blk,A.off+od.length,none⟩ d).run P w:=by
              rcases Nat.eq_zero_or_pos cap with q | q
              · have hd0 : d = [] := List.eq_nil_of_length_eq_zero (by rw [hdl]; have : n = 0 := by omega
                                                                       subst this; simp)
                subst hd0
                rfl
              · rw[hA q]
                simp only[zhw,hol]
            simp only[hst,hrun]
            rfl
          · refine grow _ _ od hxv hoC hoR hol (by omega) (h.put b none) rfl (fun q x hq => ?_) rfl rfl
            rw[H.get_put] at hq
            split at hq
            · cases hq
            · exact hq
        · cases hp
      · cases hp
    · -- none
      rename_i e1 e2
      have hnil:opd env x'=.nilsl:=by
        revert hlen
        unfold lenSl
        split
        · intro _; assumption
        · rename_i b off nn cp q
          intro _
          cases cp with
          | ex c=>exact absurd q (e1 _ _ _ _)
          | op z=>exact absurd q (e2 _ _ _ _)
        · intro q; cases q
      rw[hnil] at hxr hlen hold
      simp only[lenSl,Option.some.injEq] at hlen; subst hlen
      have hxv:a.eval x=.slice none 0 0:=hxr
      simp only[H.slc,Option.some.injEq] at hold; subst hold
      split at hp
      · rename_i hn0
        have hn0:=Nat.eq_of_beq_eq_true hn0
        subst hn0
        cases hp
        refine z03 (cv:=.slice none 0 0) ?_ (z0b rfl hR)
        rw[zxt ho hcal hargs htys,hxv,hyv,zx3 (P:=P) (len:=0) (cap:=0) (n:=0) hu hv hinf (by rw[<-hyv]; exact hdC) (Nat.le_refl _)]
        rfl
      · rename_i hn0
        have hn0:=Nat.ne_of_beq_eq_false hn0
        cases hp
        exact grow none 0 [] hxv (fun k=>by simp[Go.Builtin.firstCells]) rfl (by simp) (by omega) h rfl (fun _ _ q=>q) rfl rfl
  · cases hp
end
end Wm
