/- Each operation of my machine, as the model carries it out: memory. -/
import Derived.Test.YthkimcdeejjmbaaWmStepD
set_option linter.all false
namespace Wm
open Go (Value Addr World Obj Program IntKind TypeId Oper Operand Act Exit Sem TypeDesc)
section
variable {P:Program}{tab:Tab}{β:Nat->Option Loc}{h h':H}{w:World}{env:List V}{a:Act}{o:Oper}{v:V}{Q:Exit->Act->World->Prop}{M:Env}
theorem z0al {w:World}{cs:Array Value}{e:TypeId}{i:Nat}:World.cell? { w with heap:=w.heap.push (.cells cs e) } ⟨w.heap.size,i,none⟩=cs[i]?:=by
 simp[World.cell?]
theorem z03f (hr:Rel tab β h.get w) (hf:β h.next=none) {cs:List V}{c:Array Value} (hc:RVs tab β cs c.toList) (e:TypeId) (k:Bk) (hk:k=.rw\/∃z,k=.gr z) (ez:Nat) (hez:∀z,k=.gr z->ez=z) :
  Rel tab (upd β h.next ⟨w.heap.size,0,c.size,ez⟩) (h.new (.cells cs k)).get { w with heap:=w.heap.push (.cells c e) } /\
  Tr β (upd β h.next ⟨w.heap.size,0,c.size,ez⟩) h (h.new (.cells cs k)) w { w with heap:=w.heap.push (.cells c e) }:=by
 have hlen:=RVs.length hc
 refine z03n hr hf (.cells cs k) (.cells c e) ⟨w.heap.size,0,c.size,ez⟩ rfl (by rcases hk with rfl | ⟨z,rfl⟩ <;> rfl) ⟨by simp,fun i v hv => ?_,fun _=>⟨c,e,by simp,rfl,by simp at hlen ⊢; omega⟩,fun z hz=>hez z hz⟩
 obtain⟨x,hx,hxr⟩:=RVs.get hc i v hv
 refine⟨x,?_,RV.mono (z029 hf) v x hxr⟩
 rw[Nat.add_zero,z0al]
 simpa using hx
theorem zga (β:Nat->Option Loc) (b:Nat) (l:Loc):upd β b l b=some l:=by simp[upd]
theorem z03c {x:V}{cs:List V} (hb:boxc x=some cs):cs=x.cells:=by
 cases x <;> simp[boxc] at hb <;> exact hb.symm
theorem z0ob (hR:Rel tab β h.get w) (hF:zi6 β h h') (hE:EnvR tab β env a) {e:TypeId}{x:Operand}{x':Opd} (ho:o.op=.box e x) (hx:cOpd tab x=some x') (hs:sd M (.box x') env h=some (v,h')):Gw P o a w (Post tab β h w v h') Q:=by
 simp only[sd,step,Option.bind_eq_some_iff,Option.some.injEq,Prod.mk.injEq] at hs
 obtain⟨cs,hcs,rfl,rfl⟩:=hs
 have hcc:=RV.cells (zu hE hx) ⟨cs,hcs⟩
 rw[<-z03c hcs] at hcc
 obtain⟨hr',ht⟩:=z03f hR (hF _ (Nat.le_refl _) (by simp)) hcc e .rw (.inl rfl) 0 (fun z hz=>by cases hz)
 exact z03 (cv:=.pointer (some ⟨w.heap.size,0,none⟩)) (by simp[Go.execOp,ho,Go.Instr.box,Go.newVar,Go.newRow]) ⟨_,⟨_,zga _ _ _,by simp⟩,hr',ht⟩
theorem z0et {t:TypeId}{z:V} (hz:z06f P t=some z):∃zv,(∀w,(Go.zeroValue t).run P w=.ok zv w)/\cv zv=some z/\∃i,P.info? t=some i:=by
 unfold z06f at hz
 simp only[Option.bind_eq_some_iff] at hz
 obtain⟨i,hi,zv,hzv,hc⟩:=hz
 exact⟨zv,fun w=>by simp[Go.zeroValue,ze5 hi,hzv],hc,i,hi⟩
theorem zim {t:TypeId}{z:List V} (hz:zeroCells P t=some z) (tab:Tab) (β:Nat->Option Loc):∃zv,(∀w,(Go.zeroValue t).run P w=.ok zv w)/\RVs tab β z zv.cells.toList/\∃i,P.info? t=some i:=by
 unfold zeroCells at hz
 simp only[Option.bind_eq_some_iff] at hz
 obtain⟨u,hu,hb⟩:=hz
 obtain⟨zv,hrun,hcv,hi⟩:=z0et hu
 refine⟨zv,hrun,?_,hi⟩
 rw[z03c hb]
 exact RV.cells (z0dd hcv) ⟨z,hb⟩
theorem z0m2 (hR:Rel tab β h.get w) (hF:zi6 β h h') {t:TypeId}{z:List V} (ho:o.op=.alloc t) (hz:zeroCells P t=some z) (hs:sd M (.alloc z) env h=some (v,h')):Gw P o a w (Post tab β h w v h') Q:=by
 simp only[sd,step,Option.some.injEq,Prod.mk.injEq] at hs
 obtain⟨rfl,rfl⟩:=hs
 obtain⟨zv,hrun,hcc,_⟩:=zim hz tab β
 obtain⟨hr',ht⟩:=z03f hR (hF _ (Nat.le_refl _) (by simp)) hcc t .rw (.inl rfl) 0 (fun z hz=>by cases hz)
 refine z03 (cv:=.pointer (some ⟨w.heap.size,0,none⟩)) ?_ ⟨_,⟨_,zga _ _ _,by simp⟩,hr',ht⟩
 simp[Go.execOp,ho,Go.Instr.alloc,hrun,Go.newVar,Go.newRow]
theorem z0hb {cs vs:List V}{c d:List Value} (hc:RVs tab β cs c) (hv:RVs tab β vs d) (off:Nat):RVs tab β (z07 cs off vs) (c.take off ++ d ++ c.drop (off+d.length)):=by
 unfold z07
 rw[RVs.length hv]
 exact RVs.append (RVs.append (RVs.take hc off) hv) (RVs.drop hc _)
theorem z0ey:∀(ds:List Value) (c:Array Value) (off j:Nat),off+j+ds.length<=c.size ->
  ((ds.zipIdx j).foldl (fun (cs:Array Value) x=>cs.setIfInBounds (off+x.2) x.1) c).toList=c.toList.take (off+j) ++ ds ++ c.toList.drop (off+j+ds.length)
 | [],c,off,j,h=>by simp
 | x :: ds,c,off,j,h=>by
  simp only[List.zipIdx_cons,List.foldl_cons]
  rw[z0ey ds _ off (j+1) (by simp at h ⊢; omega)]
  simp only[Array.toList_setIfInBounds,List.length_cons] at h ⊢
  have h1:(c.toList.set (off+j) x).take (off+(j+1))=c.toList.take (off+j) ++ [x]:=by
   rw[List.take_set]
   have:off+(j+1)=off+j+1:=by omega
   rw[this,List.take_add_one,List.set_append]
   have hl:(c.toList.take (off+j)).length=off+j:=by rw[List.length_take]; simp; omega
   rw[if_neg (by omega),hl,Nat.sub_self]
   have:off+j<c.toList.length:=by simp; omega
   simp[List.getElem?_eq_getElem this]
  have h2:(c.toList.set (off+j) x).drop (off+(j+1)+ds.length)=c.toList.drop (off+j+(ds.length+1)):=by
   rw[List.drop_set,if_pos (by omega)]
   congr 1; omega
  rw[h1,h2]
  simp
theorem z08h (hE:EnvR tab β env a) {places:Nat->Option (Nat × Nat)}:∀ {parts:List (Nat × Operand)}{parts':List (Nat × Nat × Opd)}{cs cs':List V}{c:Array Value},zwo tab places parts=some parts'->RVs tab β cs c.toList ->
  fill cs env parts'=some cs'->∃c',Go.Instr.fill places c (parts.map fun p=>(p.1,a.eval p.2))=some c'/\RVs tab β cs' c'.toList:=by
 intro parts
 induction parts with
 | nil =>
  intro parts' cs cs' c h hc hf
  simp[zwo,z6d] at h; subst h
  simp only[fill,Option.some.injEq] at hf; subst hf
  exact⟨c,rfl,hc⟩
 | cons p parts ih =>
  intro parts' cs cs' c h hc hf
  have h0:=zfc h
  cases parts' with
  | nil=>simp at h0
  | cons q parts' =>
   simp only[List.map_cons,List.cons.injEq,Option.bind_eq_some_iff,Option.map_eq_some_iff] at h0
   obtain⟨⟨pl,hpl,x,hx,rfl⟩,hrest⟩:=h0
   simp only[fill] at hf
   split at hf
   ·cases hf
   ·rename_i l hl
    split at hf
    ·rename_i hb
     simp only[Bool.and_eq_true,decide_eq_true_eq] at hb
     have hlen:l.length=pl.2:=Nat.eq_of_beq_eq_true hb.1
     have hxr:=RV.cells (zu hE hx) ⟨l,hl⟩
     rw[<-z03c hl] at hxr
     have h1:=RVs.length hxr
     have h2:=RVs.length hc
     have hfold:=z0ey (a.eval p.2).cells.toList c pl.1 0 (by simp at h1 h2 ⊢; omega)
     simp only[Nat.add_zero] at hfold
     have hsp:=z0hb hc hxr pl.1
     rw[<-hfold] at hsp
     obtain⟨c',hc',hr'⟩:=ih (parts':=parts') (by
      have:∀(l:List (Option (Nat × Nat × Opd))) (r:List (Nat × Nat × Opd)),l=r.map some->z6d l=some r:=by
       intro l r e; subst e
       induction r with
       | nil=>rfl
       | cons a r ihr=>simp[z6d,ihr]
      exact this _ _ hrest) hsp hf
     refine⟨c',?_,hr'⟩
     have e1:(a.eval p.2).cells.size=pl.2:=by simp at h1; omega
     have e2:¬(pl.1+(a.eval p.2).cells.size > c.size):=by simp at h2; omega
     simp only[List.map_cons,Go.Instr.fill,hpl]
     rw[if_neg (by simp[e1]; omega),<-hc']
     congr 1
     apply Array.ext'
     rw[<-Array.foldl_toList]
     simp[Array.toList_zipIdx]
    ·cases hf
end
end Wm
