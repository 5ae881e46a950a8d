/- What the functions come to, and the law: of my machine. -/
import Derived.Test.YthkimcdeejjmbaaWmOwnLinReplaysB
import Derived.Test.YthkimcdeejjmbaaWmTxtLinReplaysC
import Derived.Test.YthkimcdeejjmbaaWmTxtLinReplaysD
import Derived.Sort.LotC
import Derived.Sort.Lot0
import Derived.Sort.LotD3
import Derived.Sort.LotA
import Derived.Test.YthkimcdeejjmbaaWmFast
import Derived.Test.YthkimcdeejjmbaaWmTxtLinReplaysE
import Derived.KernelRfl
import Derived.Test.YthkimcdeejjmbaaWmShal
import Derived.Test.YthkimcdeejjmbaaWmFnsLinReplays
import Derived.Sort.LotD1
import Derived.Sort.LotD4
import Derived.Sort.LotB
import Derived.Test.YthkimcdeejjmbaaWmOwnLinReplaysA
import Derived.Test.YthkimcdeejjmbaaWmCore
set_option linter.all false
noncomputable section
namespace Wm
attribute [local congr] zi
attribute [local irreducible] wr
open Go.Sort (swp siftDown heapBuild heapPop reverseLoop)
section
variable {h0 h:H}{b N f:Nat}{cs:List V}{lt:Int->Int->Bool}{d:Array Int}{c:Cap}
theorem zkn {i j:Nat} (h:i<=j):decide ((i:Int)<=(j:Int))=true:=decide_eq_true (by omega)
theorem zhj {i j:Nat} (h:¬i<=j):decide ((i:Int)<=(j:Int))=false:=decide_eq_false (by omega)
theorem zcu {i j:Nat} (h:i+j<=9000):wr .i64 ((i:Int)+(j:Int))=((i+j:Nat):Int):=by rw[wr64 (by omega) (by omega)]; omega
theorem z23 {i j:Nat} (h:j<=i) (hi:i<=9000):wr .i64 ((i:Int)-(j:Int))=((i-j:Nat):Int):=by rw[wr64 (by omega) (by omega)]; omega
theorem z08x {i:Nat} (h:i<=9000):wr .i64 (2 * (i:Int))=((2 * i:Nat):Int):=by rw[wr64 (by omega) (by omega)]; omega
theorem z03h {i:Nat} (h:i<=9000):wr .i64 ((i:Int)+1)=((i+1:Nat):Int):=by rw[wr64 (by omega) (by omega)]; omega
theorem z0is {N hi fi root:Nat} (hN:N<=1000) (hf:fi+hi<=N) (hr:root<=N) (h1:¬hi<=2 * root+1) :
  fi+(2 * root+1)<N/\fi+root<N/\2 * root+1<=N/\hi-(2 * root+1)<hi-root/\fi+(2 * root+1)<=9000/\fi+root<=9000/\fi+(2 * root+1+1)<=9000/\(2 * root+1+1<hi->fi+(2 * root+1+1)<N):=by omega
theorem z0b8 (A:Sw h0 b N h d) (K:Cmp h0 b N f cs lt) (hN:N<=1000) {hi fi root:Nat} (hf:fi+hi<=N) (hr:root<=N) :
  Ev (C 487 [.sl b 0 N c,.int .i64 (root:Int),.int .i64 (hi:Int),.int .i64 (fi:Int),.fn f cs] h) fun z=>z.1=.tup []/\Sw h0 b N z.2 (siftDown lt hi fi root d):=by
 refine z0e (af:=F.z0u) (by kernel_rfl) rfl ?_
 rw[S.ztg]
 simp only[S.z0u]
 refine z0f (α:=Nat × Array Int) (fun q=>S.z2o (.sl b 0 N c) (.int .i64 (hi:Int)) (.int .i64 (fi:Int)) (.fn f cs) (.int .i64 (q.1:Int)))
  (fun q h=>q.1<=N/\Sw h0 b N h q.2/\siftDown lt hi fi q.1 q.2=siftDown lt hi fi root d) (fun q _=>hi-q.1)
  (fun z=>(z.1=.exit 0\/z.1=.ret)/\z.2.1=S.z1p/\Sw h0 b N z.2.2 (siftDown lt hi fi root d)) (root,d) rfl ⟨hr,A,rfl⟩ ?_ ?_
 rotate_left
 ·rintro⟨_,_,g⟩ ⟨rfl | rfl,rfl,A⟩
  ·show Ev (S.z5f W (.exit 0) _ _) _
   rw[S.znj]
   exact Ev.some ⟨rfl,A⟩
  ·show Ev (S.z5f W .ret _ _) _
   rw[S.zny]
   exact Ev.some ⟨rfl,A⟩
 clear hr A
 generalize siftDown lt hi fi root d=D
 clear root
 rintro⟨root,d1⟩ g ⟨hr,A,hd⟩
 dsimp only at hr A hd
 rw[S.zpm]
 rw[siftDown,show fi+(2 * root+1)+1=fi+(2 * root+1+1) from rfl,show 2 * root+2=2 * root+1+1 from rfl] at hd
 have rN:2 * root+2<=9000:=by omega
 obtain⟨hI,hhi⟩:∃x:Int,x=(hi:Int):=⟨_,rfl⟩
 obtain⟨fI,hfi⟩:∃x:Int,x=(fi:Int):=⟨_,rfl⟩
 obtain⟨rI,hri⟩:∃x:Int,x=(root:Int):=⟨_,rfl⟩
 rw[<-hhi,<-hfi,<-hri]
 have w2:wr .i64 (2 * rI)=((2 * root:Nat):Int):=hri ▸ z08x (i:=root) (Nat.le_trans hr (Nat.le_trans hN (by decide)))
 have w3:=z03h (i:=2 * root) (Nat.le_trans (by simp) rN)
 by_cases h1:hi<=2 * root+1
 ·rw[dif_pos h1] at hd
  have k1:decide (hI<=((2 * root+1:Nat):Int))=true:=hhi ▸ zkn h1
  simp only[S.z12,w2,w3,k1]
  subst hhi hfi hri
  exact Ev.some (.inr ⟨by simp,.inl rfl,rfl,hd ▸ A⟩)
 obtain⟨b1,b2,m1,m2,f1,f2,f3,f4⟩:=z0is hN hf hr h1
 have w4:=z03h (i:=2 * root+1) (Nat.le_trans (by simp) rN)
 have w5:wr .i64 (fI+((2 * root+1:Nat):Int))=((fi+(2 * root+1):Nat):Int):=hfi ▸ zcu (i:=fi) (j:=2 * root+1) f1
 have w6:wr .i64 (((fi+(2 * root+1):Nat):Int)+1)=((fi+(2 * root+1+1):Nat):Int):=z03h (i:=fi+(2 * root+1)) f1
 have w7:wr .i64 (fI+rI)=((fi+root:Nat):Int):=hfi ▸ hri ▸ zcu (i:=fi) (j:=root) f2
 have w8:wr .i64 (fI+((2 * root+1+1:Nat):Int))=((fi+(2 * root+1+1):Nat):Int):=hfi ▸ zcu (i:=fi) (j:=2 * root+1+1) f3
 have i1:=zs (b:=b) (c:=c) b1
 have i2:=zs (b:=b) (c:=c) b2
 rw[dif_neg h1] at hd
 have k1:decide (hI<=((2 * root+1:Nat):Int))=false:=hhi ▸ zhj h1
 -- the left child
 have left:∀(g1:H),Sw h0 b N g1 d1->(if (!lt d1[fi+root]! d1[fi+(2 * root+1)]!)=true then d1 else siftDown lt hi fi (2 * root+1) (swp d1 (fi+root) (fi+(2 * root+1))))=D ->
   ∃n g2,(∀ {R:Type} (k:V × H->Option R),z7w W (.fn f cs) [.int .i64 d1[fi+root]!,.int .i64 d1[fi+(2 * root+1)]!] g1 k=k (.int .i64 n,g2))/\Sw h0 b N g2 d1/\((decide (n<0)=false/\d1=D)\/(decide (n<0)=true/\∃g3 g4,g2.st 1 (.ptr b (fi+root)) (.int .i64 d1[fi+(2 * root+1)]!)=some g3/\g3.st 1 (.ptr b (fi+(2 * root+1))) (.int .i64 d1[fi+root]!)=some g4/\Sw h0 b N g4 (swp d1 (fi+root) (fi+(2 * root+1)))/\siftDown lt hi fi (2 * root+1) (swp d1 (fi+root) (fi+(2 * root+1)))=D)):=by
  intro g1 A1 hd
  obtain⟨n,g2,ec,hn,A2,_⟩:=A1.cmp K b2 b1
  refine⟨n,g2,ec,A2,?_⟩
  cases hl:lt d1[fi+root]! d1[fi+(2 * root+1)]! with
  | false=>rw[hl] at hn hd; exact .inl ⟨hn,by simpa using hd⟩
  | true =>
   rw[hl] at hn hd
   obtain⟨g3,g4,s1,s2,A4,_⟩:=A2.swap b2 b1
   exact .inr ⟨hn,g3,g4,s1,s2,A4,by simpa using hd⟩
 have l1:=A.ld b1
 have l2:=A.ld b2
 by_cases h2:2 * root+1+1<hi
 ·have k2:decide (((2 * root+1+1:Nat):Int)<hI)=true:=hhi ▸ z2b h2
  have b3:fi+(2 * root+1+1)<N:=f4 h2
  have i3:=zs (b:=b) (c:=c) b3
  have l3:=A.ld b3
  obtain⟨n,g1,ec,hn,A1,_⟩:=A.cmp K b1 b3
  have l4:=A1.ld b1
  have l5:=A1.ld b2
  have l6:=A1.ld b3
  cases hl:lt d1[fi+(2 * root+1)]! d1[fi+(2 * root+1+1)]! with
  | true =>
   rw[if_pos (by rw[hl]; simpa using h2)] at hd
   obtain⟨n2,g2,ec2,hn2,A2,_⟩:=A1.cmp K b2 b3
   have l7:=A2.ld b2
   have l8:=A2.ld b3
   cases hl2:lt d1[fi+root]! d1[fi+(2 * root+1+1)]! with
   | false =>
    rw[if_pos (by rw[hl2]; rfl)] at hd
    simp only[S.z12,w2,w3,w4,w5,w6,w7,w8,k1,k2,i1,i2,i3,zd,zk,l1,l3,ec,zm,hn,hl,l5,l6,ec2,hn2,hl2,Bool.not_false]
    subst hhi hfi hri
    exact Ev.some (.inr ⟨by simp,.inr rfl,rfl,hd ▸ A2⟩)
   | true =>
    rw[if_neg (by rw[hl2]; simp),dif_pos h2] at hd
    obtain⟨g3,g4,s1,s2,A4,_⟩:=A2.swap b2 b3
    simp only[S.z12,w2,w3,w4,w5,w6,w7,w8,k1,k2,i1,i2,i3,zd,zk,l1,l3,ec,zm,hn,hl,l5,l6,ec2,hn2,hl2,Bool.not_true,l7,l8,s1,s2]
    subst hhi hfi hri
    exact Ev.some (.inl ⟨(2 * root+1+1,_),rfl,rfl,⟨Nat.le_trans (Nat.le_of_lt h2) (Nat.le_trans (Nat.le_add_left _ _) hf),A4,hd⟩,Nat.lt_of_le_of_lt (Nat.sub_le_sub_left (Nat.le_succ _) _) m2⟩)
  | false =>
   rw[if_neg (by rw[hl]; simp)] at hd
   obtain⟨n2,g2,ec2,A2,q⟩:=left g1 A1 hd
   rcases q with ⟨hn2,hD⟩ | ⟨hn2,g3,g4,s1,s2,A4,hD⟩
   ·simp only[S.z12,w2,w3,w4,w5,w6,w7,w8,k1,k2,i1,i2,i3,zd,zk,l1,l3,ec,zm,hn,hl,l4,l5,ec2,hn2,Bool.not_false]
    subst hhi hfi hri
    exact Ev.some (.inr ⟨by simp,.inr rfl,rfl,hD ▸ A2⟩)
   ·have l7:=A2.ld b2
    have l8:=A2.ld b1
    simp only[S.z12,w2,w3,w4,w5,w6,w7,w8,k1,k2,i1,i2,i3,zd,zk,l1,l3,ec,zm,hn,hl,l4,l5,ec2,hn2,Bool.not_true,l7,l8,s1,s2]
    subst hhi hfi hri
    exact Ev.some (.inl ⟨(2 * root+1,_),rfl,rfl,⟨m1,A4,hD⟩,m2⟩)
 ·have k2:decide (((2 * root+1+1:Nat):Int)<hI)=false:=hhi ▸ z37 h2
  rw[if_neg (by simp[h2])] at hd
  obtain⟨n2,g2,ec2,A2,q⟩:=left g A hd
  rcases q with ⟨hn2,hD⟩ | ⟨hn2,g3,g4,s1,s2,A4,hD⟩
  ·simp only[S.z12,w2,w3,w4,w5,w7,k1,k2,i1,i2,zd,zk,l1,l2,zm,ec2,hn2,Bool.not_false]
   subst hhi hfi hri
   exact Ev.some (.inr ⟨by simp,.inr rfl,rfl,hD ▸ A2⟩)
  ·have l7:=A2.ld b2
   have l8:=A2.ld b1
   simp only[S.z12,w2,w3,w4,w5,w7,k1,k2,i1,i2,zd,zk,l1,l2,zm,ec2,hn2,Bool.not_true,l7,l8,s1,s2]
   subst hhi hfi hri
   exact Ev.some (.inl ⟨(2 * root+1,_),rfl,rfl,⟨m1,A4,hD⟩,m2⟩)
theorem z0lm {k:Nat}:decide ((0:Int)<=((k+1:Nat):Int)-1)=true/\((k+1:Nat):Int)-1=(k:Int):=⟨decide_eq_true (by omega),by omega⟩
theorem z07k {k:Nat} (h:k<=9000):wr .i64 ((k:Int)-1)=(k:Int)-1:=wr64 (by omega) (by omega)
theorem z0j9 {n:Nat} (h:n<=9000):wr .i64 (Int.tdiv (wr .i64 ((n:Int)-1)) 2)=(((n-1) / 2+1:Nat):Int)-1:=by
 have e:wr .i64 ((n:Int)-1)=(n:Int)-1:=z07k h
 rw[e]
 cases n with
 | zero=>rw[wr64 (by decide) (by decide)]; decide
 | succ n =>
  have e1:((n+1:Nat):Int)-1=(n:Int):=by omega
  have e2:Int.tdiv (n:Int) 2=((n / 2:Nat):Int):=rfl
  rw[e1,e2,wr64 (by omega) (by omega),Nat.add_sub_cancel]
  omega
theorem z0d4 (A:Sw h0 b N h d) (K:Cmp h0 b N f cs lt) (hN:N<=1000) {fi n:Nat} (hn:fi+n<=N) :
  Ev ((W.loop (S.zb4 W) (S.z41 (.sl b 0 N c) (.fn f cs) (.int .i64 (fi:Int)) (.int .i64 0) (.int .i64 ((n:Int)-1))) h).bind fun z=>S.z7z W z.1 z.2.1 z.2.2)
   fun z=>z.1=.tup []/\Sw h0 b N z.2 (heapPop lt fi n d):=by
 refine z0f (α:=Nat × Array Int) (fun q=>S.z41 (.sl b 0 N c) (.fn f cs) (.int .i64 (fi:Int)) (.int .i64 0) (.int .i64 ((q.1:Int)-1)))
  (fun q h=>fi+q.1<=N/\Sw h0 b N h q.2/\heapPop lt fi q.1 q.2=heapPop lt fi n d) (fun q _=>q.1)
  (fun z=>z.1=.exit 2/\z.2.1=S.zb0/\Sw h0 b N z.2.2 (heapPop lt fi n d)) (n,d) rfl ⟨hn,A,rfl⟩ ?_ ?_
 rotate_left
 ·rintro⟨_,_,g⟩ ⟨rfl,rfl,A⟩
  show Ev (S.z7z W (.exit 2) _ _) _
  rw[S.znk]
  exact Ev.some ⟨rfl,A⟩
 rintro⟨k,d1⟩ g ⟨hk,A,hd⟩
 dsimp only at hk A hd
 rw[S.zpr]
 cases k with
 | zero =>
  have k1:decide ((0:Int)<=((0:Nat):Int)-1)=false:=by decide
  simp only[S.zb2,k1]
  exact Ev.some (.inr ⟨by simp,rfl,rfl,hd ▸ A⟩)
 | succ k =>
  have b1:fi+k<N:=hk
  have b2:fi<N:=Nat.lt_of_le_of_lt (Nat.le_add_right _ _) b1
  have l9:fi+k<=9000:=Nat.le_trans (Nat.le_of_lt b1) (Nat.le_trans hN (by decide))
  have i1:=zs (b:=b) (c:=c) b1
  have i2:=zs (b:=b) (c:=c) b2
  have l1:=A.ld b1
  have l2:=A.ld b2
  obtain⟨g1,g2,s1,s2,A2,_⟩:=A.swap b2 b1
  obtain⟨⟨v3,g3⟩,e3,rfl,A3⟩:=z0b8 (c:=c) A2 K hN (hi:=k) (fi:=fi) (root:=0) (Nat.le_of_lt b1) (Nat.zero_le _)
  dsimp only at A3
  have e3':C 487 [.sl b 0 N c,.int .i64 0,.int .i64 (k:Int),.int .i64 (fi:Int),.fn f cs] g2=some (.tup [],g3):=e3
  rw[z0lm.2]
  have k1:decide ((0:Int)<=(k:Int))=true:=decide_eq_true (Int.natCast_nonneg k)
  have w1:=zcu (i:=fi) (j:=k) l9
  have w2:=z07k (k:=k) (Nat.le_trans (Nat.le_add_left _ _) l9)
  obtain⟨kI,hki⟩:∃x:Int,x=(k:Int):=⟨_,rfl⟩
  obtain⟨fI,hfi⟩:∃x:Int,x=(fi:Int):=⟨_,rfl⟩
  rw[<-hki] at k1 w1 w2 e3' ⊢
  rw[<-hfi] at w1 i2 e3' ⊢
  simp only[S.zb2,k1,w1,w2,i1,i2,zd,zk,l1,l2,s1,s2,z02,e3']
  subst hki hfi
  exact Ev.some (.inl ⟨(k,_),rfl,rfl,⟨Nat.le_of_lt b1,A3,hd⟩,Nat.lt_succ_self k⟩)
theorem z0ie (A:Sw h0 b N h d) (K:Cmp h0 b N f cs lt) (hN:N<=1000) {a e:Nat} (hae:a<=e) (he:e<=N) :
  Ev (C 451 [.sl b 0 N c,.int .i64 (a:Int),.int .i64 (e:Int),.fn f cs] h) fun z=>z.1=.tup []/\Sw h0 b N z.2 (Go.Sort.heapSort lt d a e):=by
 refine z0e (af:=F.z0k) (by kernel_rfl) rfl ?_
 rw[S.zt1]
 have he9:e<=9000:=Nat.le_trans he (Nat.le_trans hN (by decide))
 have hn9:e-a<=9000:=Nat.le_trans (Nat.sub_le _ _) he9
 have w1:=z23 hae he9
 have w2:=z0j9 hn9
 unfold Go.Sort.heapSort
 have hn:a+(e-a)<=N:=by rw[Nat.add_sub_cancel' hae]; exact he
 generalize e-a=n at w1 w2 hn9 hn ⊢
 simp only[S.z0k,w1,w2]
 clear w1 w2
 have hm:(n-1) / 2+1<=N+1:=by omega
 generalize (n-1) / 2+1=m at hm ⊢
 refine z0f (α:=Nat × Array Int) (fun q=>S.z74 (.sl b 0 N c) (.fn f cs) (.int .i64 (a:Int)) (.int .i64 0) (.int .i64 (n:Int)) (.int .i64 ((q.1:Int)-1)))
  (fun q h=>q.1<=N+1/\Sw h0 b N h q.2/\heapBuild lt n a q.1 q.2=heapBuild lt n a m d) (fun q _=>q.1)
  (fun z=>z.1=.exit 0/\z.2.1=S.zb6 (.sl b 0 N c) (.fn f cs) (.int .i64 (a:Int)) (.int .i64 0) (.int .i64 (n:Int))/\Sw h0 b N z.2.2 (heapBuild lt n a m d)) (m,d) rfl ⟨hm,A,rfl⟩ ?_ ?_
 rotate_left
 ·rintro⟨_,_,g⟩ ⟨rfl,rfl,A⟩
  show Ev (S.zch W (.exit 0) _ _) _
  rw[S.znb]
  have w3:=z07k hn9
  simp only[S.zh4,w3]
  exact z0d4 A K hN hn
 rintro⟨k,d1⟩ g ⟨hk,A,hd⟩
 dsimp only at hk A hd
 rw[S.zq0]
 cases k with
 | zero =>
  have k1:decide ((0:Int)<=((0:Nat):Int)-1)=false:=by decide
  simp only[S.zb3,k1]
  exact Ev.some (.inr ⟨by simp,rfl,rfl,hd ▸ A⟩)
 | succ k =>
  have hkN:k<=N:=Nat.le_of_succ_le_succ hk
  obtain⟨⟨v3,g3⟩,e3,rfl,A3⟩:=z0b8 (c:=c) A K hN (hi:=n) (fi:=a) (root:=k) hn hkN
  dsimp only at A3
  rw[z0lm.2]
  have k1:decide ((0:Int)<=(k:Int))=true:=decide_eq_true (Int.natCast_nonneg k)
  have w2:=z07k (k:=k) (Nat.le_trans hkN (Nat.le_trans hN (by decide)))
  simp only[S.zb3,k1,w2,zd,z02,e3]
  exact Ev.some (.inl ⟨(k,_),rfl,rfl,⟨Nat.le_succ_of_le hkN,A3,hd⟩,Nat.lt_succ_self k⟩)
end
open Go.Sort (swp scanUp scanDown partEqLoop)
section
variable {h0 h:H}{b N f:Nat}{cs:List V}{lt:Int->Int->Bool}{d:Array Int}{c:Cap}
theorem z06k (p:Int->Bool) (d:Array Int) (j i:Nat):scanUp p d j i=if i<=j/\p d[i]! = true then scanUp p d j (i+1) else i:=by
 rw[scanUp]
 by_cases h:i<=j/\p d[i]! = true
 ·rw[if_pos h,if_pos (by simp[h.1,h.2])]
 ·rw[if_neg h,if_neg (by simpa using h)]
theorem z023 (p:Int->Bool) (d:Array Int) {i:Nat} (h1:1<=i):∀j,scanDown p d i j=if i<=j/\p d[j]! = true then scanDown p d i (j-1) else j
 | 0=>by rw[if_neg (fun q=>absurd (Nat.le_trans h1 q.1) (by decide))]; rfl
 | j+1=>by
  rw[scanDown,Nat.add_sub_cancel]
  by_cases h:i<=j+1/\p d[j+1]! = true
  ·rw[if_pos h,if_pos (by simp[h.1,h.2])]
  ·rw[if_neg h,if_neg (by simpa using h)]
def z08o (h0:H) (b N:Nat) (c:Cap) (f:Nat) (cs:List V) (a i2 j2:Nat) (d:Array Int) (z:AX × List V × H):Prop :=
 if i2 > j2 then z.1=.exit 0/\z.2.1=S.z4g (.int .i64 (i2:Int))/\Sw h0 b N z.2.2 d
 else z.1=.normal/\z.2.1=S.z2h (.sl b 0 N c) (.int .i64 (a:Int)) (.fn f cs) (.int .i64 ((i2+1:Nat):Int)) (.int .i64 ((j2-1:Nat):Int))/\Sw h0 b N z.2.2 (swp d i2 j2)
theorem z0fb (A:Sw h0 b N h d) (K:Cmp h0 b N f cs lt) (hN:N<=1000) {a i j:Nat} (ha:a<N) (hi1:1<=i) (hi:i<=N) (hj:j<N) :
  Ev ((W.loop (S.z7m W) (S.z2g (.sl b 0 N c) (.int .i64 (a:Int)) (.fn f cs) (.int .i64 (i:Int)) (.int .i64 (j:Int))) h).bind fun z=>S.z5h W z.1 z.2.1 z.2.2)
   (z08o h0 b N c f cs a i (scanDown (fun x=>lt d[a]! x) d i j) d):=by
 refine z0f (α:=Nat) (fun q=>S.z2g (.sl b 0 N c) (.int .i64 (a:Int)) (.fn f cs) (.int .i64 (i:Int)) (.int .i64 (q:Int)))
  (fun q h=>q<N/\Sw h0 b N h d/\scanDown (fun x=>lt d[a]! x) d i q=scanDown (fun x=>lt d[a]! x) d i j) (fun q _=>q)
  (fun z=>∃q,q<N/\z.1=.exit 4/\z.2.1=S.z4f (.sl b 0 N c) (.int .i64 (a:Int)) (.fn f cs) (.int .i64 (i:Int)) (.int .i64 (q:Int))/\Sw h0 b N z.2.2 d/\q=scanDown (fun x=>lt d[a]! x) d i j) j rfl ⟨hj,A,rfl⟩ ?_ ?_
 rotate_left
 ·rintro⟨_,_,g⟩ ⟨q,hq,rfl,rfl,A,hqe⟩
  rw[<-hqe]
  clear hqe
  dsimp only at A ⊢
  show Ev (S.z5h W (.exit 4) _ _) _
  rw[S.zk2]
  unfold z08o
  by_cases hqi:q<i
  ·simp only[S.z7f,z2b hqi,if_pos (show i > q from hqi)]
   exact Ev.some ⟨rfl,rfl,A⟩
  ·simp only[if_neg (show ¬i > q from hqi)]
   have hiN:i<N:=Nat.lt_of_le_of_lt (Nat.not_lt.mp hqi) hq
   have n9:N<=9000:=Nat.le_trans hN (by decide)
   obtain⟨m,rfl⟩:∃m,q=m+1:=⟨q-1,by omega⟩
   have k1:=z37 hqi
   have w1:=z20 (i:=i) (Nat.le_trans hi n9)
   have w2:=z3n (i:=m) (Nat.le_trans (Nat.le_of_lt hq) n9)
   have i1:=zs (b:=b) (c:=c) hiN
   have i2:=zs (b:=b) (c:=c) hq
   have l1:=A.ld hiN
   have l2:=A.ld hq
   obtain⟨g1,g2,s1,s2,A2,_⟩:=A.swap hiN hq
   simp only[S.z7f,k1,w1,w2,i1,i2,zd,zk,l1,l2,s1,s2]
   exact Ev.some ⟨rfl,rfl,A2⟩
 rintro q g ⟨hq,A,hd⟩
 rw[S.zls]
 rw[z023 _ _ hi1] at hd
 by_cases hiq:i<=q
 ·have i1:=zs (b:=b) (c:=c) ha
  have i2:=zs (b:=b) (c:=c) hq
  have l1:=A.ld ha
  have l2:=A.ld hq
  have k1:=zkn hiq
  obtain⟨n,g1,ec,hn,A1,_⟩:=A.cmp K ha hq
  obtain⟨m,rfl⟩:∃m,q=m+1:=⟨q-1,by omega⟩
  have w2:=z3n (i:=m) (Nat.le_trans (Nat.le_of_lt hq) (Nat.le_trans hN (by decide)))
  cases hl:lt d[a]! d[m+1]! with
  | true =>
   rw[if_pos ⟨hiq,hl⟩,Nat.add_sub_cancel] at hd
   simp only[S.z4b,k1,i1,i2,zd,zk,l1,l2,ec,zm,hn,hl,w2]
   exact Ev.some (.inl ⟨m,rfl,rfl,⟨Nat.lt_of_succ_lt hq,A1,hd⟩,Nat.lt_succ_self m⟩)
  | false =>
   rw[if_neg (fun z=>by rw[hl] at z; cases z.2)] at hd
   simp only[S.z4b,k1,i1,i2,zd,zk,l1,l2,ec,zm,hn,hl]
   exact Ev.some (.inr ⟨by simp,m+1,hq,rfl,rfl,A1,hd⟩)
 ·rw[if_neg (fun z=>hiq z.1)] at hd
  simp only[S.z4b,zhj hiq]
  exact Ev.some (.inr ⟨by simp,q,hq,rfl,rfl,A,hd⟩)
theorem z0jw (A:Sw h0 b N h d) (K:Cmp h0 b N f cs lt) (hN:N<=1000) {a i j:Nat} (ha:a<N) (hi1:1<=i) (hi:i<=N) (hj:j<N) :
  Ev ((W.loop (S.z7n W) (S.z2f (.sl b 0 N c) (.int .i64 (a:Int)) (.fn f cs) (.int .i64 (i:Int)) (.int .i64 (j:Int))) h).bind fun z=>S.z5j W z.1 z.2.1 z.2.2)
   (z08o h0 b N c f cs a (scanUp (fun x=>!lt d[a]! x) d j i) (scanDown (fun x=>lt d[a]! x) d (scanUp (fun x=>!lt d[a]! x) d j i) j) d):=by
 refine z0f (α:=Nat) (fun q=>S.z2f (.sl b 0 N c) (.int .i64 (a:Int)) (.fn f cs) (.int .i64 (q:Int)) (.int .i64 (j:Int)))
  (fun q h=>(1<=q/\q<=N)/\Sw h0 b N h d/\scanUp (fun x=>!lt d[a]! x) d j q=scanUp (fun x=>!lt d[a]! x) d j i) (fun q _=>N-q)
  (fun z=>∃q,(1<=q/\q<=N)/\z.1=.exit 2/\z.2.1=S.z4d (.sl b 0 N c) (.int .i64 (a:Int)) (.fn f cs) (.int .i64 (q:Int)) (.int .i64 (j:Int))/\Sw h0 b N z.2.2 d/\q=scanUp (fun x=>!lt d[a]! x) d j i) i rfl ⟨⟨hi1,hi⟩,A,rfl⟩ ?_ ?_
 rotate_left
 ·rintro⟨_,_,g⟩ ⟨q,⟨hq1,hq⟩,rfl,rfl,A,hqe⟩
  rw[<-hqe]
  clear hqe
  dsimp only at A ⊢
  show Ev (S.z5j W (.exit 2) _ _) _
  rw[S.zjj]
  simp only[S.zd9]
  exact z0fb A K hN ha hq1 hq hj
 rintro q g ⟨⟨hq1,hq⟩,A,hd⟩
 rw[S.zlv]
 rw[z06k] at hd
 by_cases hqj:q<=j
 ·have hqN:q<N:=Nat.lt_of_le_of_lt hqj hj
  have i1:=zs (b:=b) (c:=c) ha
  have i2:=zs (b:=b) (c:=c) hqN
  have l1:=A.ld ha
  have l2:=A.ld hqN
  have k1:=zkn hqj
  obtain⟨n,g1,ec,hn,A1,_⟩:=A.cmp K ha hqN
  have w2:=z20 (i:=q) (Nat.le_trans hq (Nat.le_trans hN (by decide)))
  cases hl:lt d[a]! d[q]! with
  | false =>
   rw[if_pos ⟨hqj,by rw[hl]; rfl⟩] at hd
   simp only[S.z4e,k1,i1,i2,zd,zk,l1,l2,ec,zm,hn,hl,w2,Bool.not_false]
   exact Ev.some (.inl ⟨q+1,rfl,rfl,⟨⟨Nat.le_succ_of_le hq1,hqN⟩,A1,hd⟩,Nat.sub_lt_sub_left hqN (Nat.lt_succ_self q)⟩)
  | true =>
   rw[if_neg (fun z=>by rw[hl] at z; cases z.2)] at hd
   simp only[S.z4e,k1,i1,i2,zd,zk,l1,l2,ec,zm,hn,hl,Bool.not_true]
   exact Ev.some (.inr ⟨by simp,q,⟨hq1,hq⟩,rfl,rfl,A1,hd⟩)
 ·rw[if_neg (fun z=>hqj z.1)] at hd
  simp only[S.z4e,zhj hqj]
  exact Ev.some (.inr ⟨by simp,q,⟨hq1,hq⟩,rfl,rfl,A,hd⟩)
theorem z05g (A:Sw h0 b N h d) (K:Cmp h0 b N f cs lt) (hN:N<=1000) {a e pv:Nat} (hae:a<e) (he:e<=N) (hp:pv<N) :
  Ev (C 456 [.sl b 0 N c,.int .i64 (a:Int),.int .i64 (e:Int),.int .i64 (pv:Int),.fn f cs] h) fun z=>z.1=.int .i64 ((Go.Sort.partitionEqual lt d a e pv).1:Int)/\Sw h0 b N z.2 (Go.Sort.partitionEqual lt d a e pv).2:=by
 refine z0e (af:=F.zw) (by kernel_rfl) rfl ?_
 rw[S.zn1]
 obtain⟨m,rfl⟩:∃m,e=m+1:=⟨e-1,by omega⟩
 have n9:N<=9000:=Nat.le_trans hN (by decide)
 have ha:a<N:=Nat.lt_of_lt_of_le hae he
 have w1:=z20 (i:=a) (Nat.le_trans (Nat.le_of_lt ha) n9)
 have w2:=z3n (i:=m) (Nat.le_trans he n9)
 have i1:=zs (b:=b) (c:=c) ha
 have i2:=zs (b:=b) (c:=c) hp
 have l1:=A.ld ha
 have l2:=A.ld hp
 obtain⟨g1,g2,s1,s2,A2,_⟩:=A.swap ha hp
 simp only[S.zw,w1,w2,i1,i2,zd,zk,l1,l2,s1,s2]
 unfold Go.Sort.partitionEqual
 rw[Nat.add_sub_cancel]
 generalize swp d a pv=d2 at A2 ⊢
 refine z0f (α:=Nat × Nat × Array Int) (fun q=>S.z2h (.sl b 0 N c) (.int .i64 (a:Int)) (.fn f cs) (.int .i64 (q.1:Int)) (.int .i64 (q.2.1:Int)))
  (fun q h=>(1<=q.1/\q.1<=N)/\q.2.1<N/\Sw h0 b N h q.2.2/\partEqLoop lt a q.1 q.2.1 q.2.2=partEqLoop lt a (a+1) m d2) (fun q _=>q.2.1+1-q.1)
  (fun z=>z.1=.exit 0/\z.2.1=S.z4g (.int .i64 ((partEqLoop lt a (a+1) m d2).1:Int))/\Sw h0 b N z.2.2 (partEqLoop lt a (a+1) m d2).2) (a+1,m,d2) rfl ⟨⟨Nat.succ_le_succ (Nat.zero_le _),ha⟩,he,A2,rfl⟩ ?_ ?_
 rotate_left
 ·rintro⟨_,_,g⟩ ⟨rfl,rfl,A⟩
  show Ev (S.z8o W (.exit 0) _ _) _
  rw[S.zjq]
  exact Ev.some ⟨rfl,A⟩
 generalize partEqLoop lt a (a+1) m d2=D
 rintro⟨i,j,d1⟩ g ⟨⟨hi1,hi⟩,hj,A,hd⟩
 dsimp only at hi1 hi hj A hd
 rw[S.zlx]
 simp only[S.zdo]
 refine(z0jw A K hN ha hi1 hi hj).mono ?_
 rw[Go.Sort.partEqLoop_eq] at hd
 have u1:=Go.Sort.scanUp_ge (fun x=>!lt d1[a]! x) d1 j i
 generalize scanUp (fun x=>!lt d1[a]! x) d1 j i=i2 at hd u1 ⊢
 have u2:=Go.Sort.scanDown_le (fun x=>lt d1[a]! x) d1 i2 j
 generalize scanDown (fun x=>lt d1[a]! x) d1 i2 j=j2 at hd u2 ⊢
 rintro⟨x1,e1,g1⟩ hz
 unfold z08o at hz
 by_cases hc:i2 > j2
 ·rw[if_pos hc] at hd hz
  obtain⟨rfl,rfl,A1⟩:=hz
  subst hd
  exact .inr ⟨by simp,rfl,rfl,A1⟩
 ·rw[if_neg hc] at hd hz
  obtain⟨rfl,rfl,A1⟩:=hz
  exact .inl ⟨(i2+1,j2-1,_),rfl,rfl,⟨⟨Nat.succ_le_succ (Nat.zero_le _),Nat.lt_of_le_of_lt (Nat.le_trans (Nat.not_lt.mp hc) u2) hj⟩,Nat.lt_of_le_of_lt (Nat.sub_le _ _) (Nat.lt_of_le_of_lt u2 hj),A1,hd⟩,Go.Sort.guard_of u1 u2 hc⟩
end
open Go.Sort (swp scanUp scanDown partLoop)
section
variable {h0 h:H}{b N f:Nat}{cs:List V}{lt:Int->Int->Bool}{d:Array Int}{c:Cap}
theorem z0o8 {R:Type}{kk:AX × List V × H->Option R}{Q:R->Prop} (A:Sw h0 b N h d) (K:Cmp h0 b N f cs lt) (hN:N<=1000) {a i j:Nat} (ha:a<N) (hi1:1<=i) (hi:i<=N) (hj:j<N)
  (out:∀q,1<=q->q<=N->q=scanUp (fun x=>lt x d[a]!) d j i->∀g,Sw h0 b N g d->Ev (kk (.exit 0,S.z3t (.sl b 0 N c) (.int .i64 (a:Int)) (.fn f cs) (.int .i64 (q:Int)) (.int .i64 (j:Int)),g)) Q) :
  Ev ((W.loop (S.zal W) (S.z3q (.sl b 0 N c) (.int .i64 (a:Int)) (.fn f cs) (.int .i64 (i:Int)) (.int .i64 (j:Int))) h).bind kk) Q:=by
 refine z0f (α:=Nat) (fun q=>S.z3q (.sl b 0 N c) (.int .i64 (a:Int)) (.fn f cs) (.int .i64 (q:Int)) (.int .i64 (j:Int)))
  (fun q h=>(1<=q/\q<=N)/\Sw h0 b N h d/\scanUp (fun x=>lt x d[a]!) d j q=scanUp (fun x=>lt x d[a]!) d j i) (fun q _=>N-q)
  (fun z=>∃q,(1<=q/\q<=N)/\z.1=.exit 0/\z.2.1=S.z3t (.sl b 0 N c) (.int .i64 (a:Int)) (.fn f cs) (.int .i64 (q:Int)) (.int .i64 (j:Int))/\Sw h0 b N z.2.2 d/\q=scanUp (fun x=>lt x d[a]!) d j i) i rfl ⟨⟨hi1,hi⟩,A,rfl⟩ ?_ ?_
 rotate_left
 ·rintro⟨_,_,g⟩ ⟨q,⟨hq1,hq⟩,rfl,rfl,A,hqe⟩
  exact out q hq1 hq hqe g A
 rintro q g ⟨⟨hq1,hq⟩,A,hd⟩
 rw[S.zow]
 rw[z06k] at hd
 by_cases hqj:q<=j
 ·have hqN:q<N:=Nat.lt_of_le_of_lt hqj hj
  have i1:=zs (b:=b) (c:=c) ha
  have i2:=zs (b:=b) (c:=c) hqN
  have l1:=A.ld ha
  have l2:=A.ld hqN
  have k1:=zkn hqj
  obtain⟨n,g1,ec,hn,A1,_⟩:=A.cmp K hqN ha
  have w2:=z20 (i:=q) (Nat.le_trans hq (Nat.le_trans hN (by decide)))
  cases hl:lt d[q]! d[a]! with
  | true =>
   rw[if_pos ⟨hqj,hl⟩] at hd
   simp only[S.z6k,k1,i1,i2,zd,zk,l1,l2,ec,zm,hn,hl,w2]
   exact Ev.some (.inl ⟨q+1,rfl,rfl,⟨⟨Nat.le_succ_of_le hq1,hqN⟩,A1,hd⟩,Nat.sub_lt_sub_left hqN (Nat.lt_succ_self q)⟩)
  | false =>
   rw[if_neg (fun z=>by rw[hl] at z; cases z.2)] at hd
   simp only[S.z6k,k1,i1,i2,zd,zk,l1,l2,ec,zm,hn,hl]
   exact Ev.some (.inr ⟨by simp,q,⟨hq1,hq⟩,rfl,rfl,A1,hd⟩)
 ·rw[if_neg (fun z=>hqj z.1)] at hd
  simp only[S.z6k,zhj hqj]
  exact Ev.some (.inr ⟨by simp,q,⟨hq1,hq⟩,rfl,rfl,A,hd⟩)
theorem z0ml {R:Type}{kk:AX × List V × H->Option R}{Q:R->Prop} (A:Sw h0 b N h d) (K:Cmp h0 b N f cs lt) (hN:N<=1000) {a i j:Nat} (ha:a<N) (hi1:1<=i) (hj:j<N)
  (out:∀q,q<N->q=scanDown (fun x=>!lt x d[a]!) d i j->∀g,Sw h0 b N g d->Ev (kk (.exit 2,S.z3j (.sl b 0 N c) (.int .i64 (a:Int)) (.fn f cs) (.int .i64 (i:Int)) (.int .i64 (q:Int)),g)) Q) :
  Ev ((W.loop (S.za8 W) (S.z3o (.sl b 0 N c) (.int .i64 (a:Int)) (.fn f cs) (.int .i64 (i:Int)) (.int .i64 (j:Int))) h).bind kk) Q:=by
 refine z0f (α:=Nat) (fun q=>S.z3o (.sl b 0 N c) (.int .i64 (a:Int)) (.fn f cs) (.int .i64 (i:Int)) (.int .i64 (q:Int)))
  (fun q h=>q<N/\Sw h0 b N h d/\scanDown (fun x=>!lt x d[a]!) d i q=scanDown (fun x=>!lt x d[a]!) d i j) (fun q _=>q)
  (fun z=>∃q,q<N/\z.1=.exit 2/\z.2.1=S.z3j (.sl b 0 N c) (.int .i64 (a:Int)) (.fn f cs) (.int .i64 (i:Int)) (.int .i64 (q:Int))/\Sw h0 b N z.2.2 d/\q=scanDown (fun x=>!lt x d[a]!) d i j) j rfl ⟨hj,A,rfl⟩ ?_ ?_
 rotate_left
 ·rintro⟨_,_,g⟩ ⟨q,hq,rfl,rfl,A,hqe⟩
  exact out q hq hqe g A
 rintro q g ⟨hq,A,hd⟩
 rw[S.zp5]
 rw[z023 _ _ hi1] at hd
 by_cases hiq:i<=q
 ·have i1:=zs (b:=b) (c:=c) ha
  have i2:=zs (b:=b) (c:=c) hq
  have l1:=A.ld ha
  have l2:=A.ld hq
  have k1:=zkn hiq
  obtain⟨n,g1,ec,hn,A1,_⟩:=A.cmp K hq ha
  obtain⟨m,rfl⟩:∃m,q=m+1:=⟨q-1,by omega⟩
  have w2:=z3n (i:=m) (Nat.le_trans (Nat.le_of_lt hq) (Nat.le_trans hN (by decide)))
  cases hl:lt d[m+1]! d[a]! with
  | false =>
   rw[if_pos ⟨hiq,by rw[hl]; rfl⟩,Nat.add_sub_cancel] at hd
   simp only[S.z6l,k1,i1,i2,zd,zk,l1,l2,ec,zm,hn,hl,w2,Bool.not_false]
   exact Ev.some (.inl ⟨m,rfl,rfl,⟨Nat.lt_of_succ_lt hq,A1,hd⟩,Nat.lt_succ_self m⟩)
  | true =>
   rw[if_neg (fun z=>by rw[hl] at z; cases z.2)] at hd
   simp only[S.z6l,k1,i1,i2,zd,zk,l1,l2,ec,zm,hn,hl,Bool.not_true]
   exact Ev.some (.inr ⟨by simp,m+1,hq,rfl,rfl,A1,hd⟩)
 ·rw[if_neg (fun z=>hiq z.1)] at hd
  simp only[S.z6l,zhj hiq]
  exact Ev.some (.inr ⟨by simp,q,hq,rfl,rfl,A,hd⟩)
theorem z0o6 {R:Type}{kk:AX × List V × H->Option R}{Q:R->Prop} (A:Sw h0 b N h d) (K:Cmp h0 b N f cs lt) (hN:N<=1000) {a i j:Nat} (ha:a<N) (hi1:1<=i) (hi:i<=N) (hj:j<N)
  (out:∀q,1<=q->q<=N->q=scanUp (fun x=>lt x d[a]!) d j i->∀g,Sw h0 b N g d->Ev (kk (.exit 6,S.z3h (.sl b 0 N c) (.int .i64 (a:Int)) (.fn f cs) (.int .i64 (q:Int)) (.int .i64 (j:Int)),g)) Q) :
  Ev ((W.loop (S.zao W) (S.z3m (.sl b 0 N c) (.int .i64 (a:Int)) (.fn f cs) (.int .i64 (i:Int)) (.int .i64 (j:Int))) h).bind kk) Q:=by
 refine z0f (α:=Nat) (fun q=>S.z3m (.sl b 0 N c) (.int .i64 (a:Int)) (.fn f cs) (.int .i64 (q:Int)) (.int .i64 (j:Int)))
  (fun q h=>(1<=q/\q<=N)/\Sw h0 b N h d/\scanUp (fun x=>lt x d[a]!) d j q=scanUp (fun x=>lt x d[a]!) d j i) (fun q _=>N-q)
  (fun z=>∃q,(1<=q/\q<=N)/\z.1=.exit 6/\z.2.1=S.z3h (.sl b 0 N c) (.int .i64 (a:Int)) (.fn f cs) (.int .i64 (q:Int)) (.int .i64 (j:Int))/\Sw h0 b N z.2.2 d/\q=scanUp (fun x=>lt x d[a]!) d j i) i rfl ⟨⟨hi1,hi⟩,A,rfl⟩ ?_ ?_
 rotate_left
 ·rintro⟨_,_,g⟩ ⟨q,⟨hq1,hq⟩,rfl,rfl,A,hqe⟩
  exact out q hq1 hq hqe g A
 rintro q g ⟨⟨hq1,hq⟩,A,hd⟩
 rw[S.zp8]
 rw[z06k] at hd
 by_cases hqj:q<=j
 ·have hqN:q<N:=Nat.lt_of_le_of_lt hqj hj
  have i1:=zs (b:=b) (c:=c) ha
  have i2:=zs (b:=b) (c:=c) hqN
  have l1:=A.ld ha
  have l2:=A.ld hqN
  have k1:=zkn hqj
  obtain⟨n,g1,ec,hn,A1,_⟩:=A.cmp K hqN ha
  have w2:=z20 (i:=q) (Nat.le_trans hq (Nat.le_trans hN (by decide)))
  cases hl:lt d[q]! d[a]! with
  | true =>
   rw[if_pos ⟨hqj,hl⟩] at hd
   simp only[S.z6o,k1,i1,i2,zd,zk,l1,l2,ec,zm,hn,hl,w2]
   exact Ev.some (.inl ⟨q+1,rfl,rfl,⟨⟨Nat.le_succ_of_le hq1,hqN⟩,A1,hd⟩,Nat.sub_lt_sub_left hqN (Nat.lt_succ_self q)⟩)
  | false =>
   rw[if_neg (fun z=>by rw[hl] at z; cases z.2)] at hd
   simp only[S.z6o,k1,i1,i2,zd,zk,l1,l2,ec,zm,hn,hl]
   exact Ev.some (.inr ⟨by simp,q,⟨hq1,hq⟩,rfl,rfl,A1,hd⟩)
 ·rw[if_neg (fun z=>hqj z.1)] at hd
  simp only[S.z6o,zhj hqj]
  exact Ev.some (.inr ⟨by simp,q,⟨hq1,hq⟩,rfl,rfl,A,hd⟩)
theorem z0mm {R:Type}{kk:AX × List V × H->Option R}{Q:R->Prop} (A:Sw h0 b N h d) (K:Cmp h0 b N f cs lt) (hN:N<=1000) {a i j:Nat} (ha:a<N) (hi1:1<=i) (hj:j<N)
  (out:∀q,q<N->q=scanDown (fun x=>!lt x d[a]!) d i j->∀g,Sw h0 b N g d->Ev (kk (.exit 8,S.z3s (.sl b 0 N c) (.int .i64 (a:Int)) (.fn f cs) (.int .i64 (i:Int)) (.int .i64 (q:Int)),g)) Q) :
  Ev ((W.loop (S.zad W) (S.z3l (.sl b 0 N c) (.int .i64 (a:Int)) (.fn f cs) (.int .i64 (i:Int)) (.int .i64 (j:Int))) h).bind kk) Q:=by
 refine z0f (α:=Nat) (fun q=>S.z3l (.sl b 0 N c) (.int .i64 (a:Int)) (.fn f cs) (.int .i64 (i:Int)) (.int .i64 (q:Int)))
  (fun q h=>q<N/\Sw h0 b N h d/\scanDown (fun x=>!lt x d[a]!) d i q=scanDown (fun x=>!lt x d[a]!) d i j) (fun q _=>q)
  (fun z=>∃q,q<N/\z.1=.exit 8/\z.2.1=S.z3s (.sl b 0 N c) (.int .i64 (a:Int)) (.fn f cs) (.int .i64 (i:Int)) (.int .i64 (q:Int))/\Sw h0 b N z.2.2 d/\q=scanDown (fun x=>!lt x d[a]!) d i j) j rfl ⟨hj,A,rfl⟩ ?_ ?_
 rotate_left
 ·rintro⟨_,_,g⟩ ⟨q,hq,rfl,rfl,A,hqe⟩
  exact out q hq hqe g A
 rintro q g ⟨hq,A,hd⟩
 rw[S.zoz]
 rw[z023 _ _ hi1] at hd
 by_cases hiq:i<=q
 ·have i1:=zs (b:=b) (c:=c) ha
  have i2:=zs (b:=b) (c:=c) hq
  have l1:=A.ld ha
  have l2:=A.ld hq
  have k1:=zkn hiq
  obtain⟨n,g1,ec,hn,A1,_⟩:=A.cmp K hq ha
  obtain⟨m,rfl⟩:∃m,q=m+1:=⟨q-1,by omega⟩
  have w2:=z3n (i:=m) (Nat.le_trans (Nat.le_of_lt hq) (Nat.le_trans hN (by decide)))
  cases hl:lt d[m+1]! d[a]! with
  | false =>
   rw[if_pos ⟨hiq,by rw[hl]; rfl⟩,Nat.add_sub_cancel] at hd
   simp only[S.z6n,k1,i1,i2,zd,zk,l1,l2,ec,zm,hn,hl,w2,Bool.not_false]
   exact Ev.some (.inl ⟨m,rfl,rfl,⟨Nat.lt_of_succ_lt hq,A1,hd⟩,Nat.lt_succ_self m⟩)
  | true =>
   rw[if_neg (fun z=>by rw[hl] at z; cases z.2)] at hd
   simp only[S.z6n,k1,i1,i2,zd,zk,l1,l2,ec,zm,hn,hl,Bool.not_true]
   exact Ev.some (.inr ⟨by simp,m+1,hq,rfl,rfl,A1,hd⟩)
 ·rw[if_neg (fun z=>hiq z.1)] at hd
  simp only[S.z6n,zhj hiq]
  exact Ev.some (.inr ⟨by simp,q,hq,rfl,rfl,A,hd⟩)
theorem z0do (A:Sw h0 b N h d) (K:Cmp h0 b N f cs lt) (hN:N<=1000) {a i j:Nat} (ha:a<N) (hi1:1<=i) (hi:i<=N) (hj:j<N) :
    Ev (S.zah W (.sl b 0 N c) (a:Int) (.fn f cs) (i:Int) (j:Int) h) fun z=>∃i2 j2,i2=scanUp (fun x=>lt x d[a]!) d j i/\j2=scanDown (fun x=>!lt x d[a]!) d i2 j/\j2<N/\i2<=N /\
      ((j2<i2/\z.1=.exit 4/\z.2.1=S.z6h (.sl b 0 N c) (.int .i64 (a:Int)) (.int .i64 (j2:Int))/\Sw h0 b N z.2.2 d) \/
       (¬j2<i2/\z.1=.normal/\z.2.1=S.z2e (.sl b 0 N c) (.int .i64 (a:Int)) (.fn f cs) (.int .i64 ((i2+1:Nat):Int)) (.int .i64 ((j2-1:Nat):Int))/\Sw h0 b N z.2.2 (swp d i2 j2))):=by
  simp only[S.zah]
  refine z0o6 A K hN ha hi1 hi hj ?_
  intro i2 hq1 hq hqe g A
  show Ev (S.zb1 W (.exit 6) _ _) _
  rw[S.zmt]
  simp only[S.zgp]
  refine z0mm A K hN ha hq1 hj ?_
  intro j2 hj2 hje g A
  show Ev (S.zb5 W (.exit 8) _ _) _
  rw[S.zmw]
  by_cases hqi:j2<i2
  · simp only[S.z9g,z2b hqi]
    exact Ev.some ⟨i2,j2,hqe,hje,hj2,hq,.inl ⟨hqi,rfl,rfl,A⟩⟩
  · have hiN:i2<N:=Nat.lt_of_le_of_lt (Nat.not_lt.mp hqi) hj2
    have n9:N<=9000:=Nat.le_trans hN (by decide)
    have k1:=z37 hqi
    obtain⟨m,hm⟩:∃m,j2=m+1:=⟨j2-1,by omega⟩
    have w1:=z20 (i:=i2) (Nat.le_trans hq n9)
    have w2:wr .i64 ((j2:Int)-1)=((j2-1:Nat):Int):=by rw[hm]; exact z3n (i:=m) (Nat.le_trans (hm ▸ Nat.le_of_lt hj2) n9)
    have i1:=zs (b:=b) (c:=c) hiN
    have i2':=zs (b:=b) (c:=c) hj2
    have l1:=A.ld hiN
    have l2:=A.ld hj2
    obtain⟨g1,g2,s1,s2,A2,_⟩:=A.swap hiN hj2
    simp only[S.z9g,k1,w1,w2,i1,i2',zd,zk,l1,l2,s1,s2]
    exact Ev.some ⟨i2,j2,hqe,hje,hj2,hq,.inr ⟨hqi,rfl,rfl,A2⟩⟩
theorem z0fw (A:Sw h0 b N h d) (K:Cmp h0 b N f cs lt) (hN:N<=1000) {a i j:Nat} (ha:a<N) (hi1:1<=i) (hi:i<=N) (hj:j<N) :
  Ev ((W.loop (S.za6 W) (S.z2e (.sl b 0 N c) (.int .i64 (a:Int)) (.fn f cs) (.int .i64 (i:Int)) (.int .i64 (j:Int))) h).bind fun z=>S.z7i W z.1 z.2.1 z.2.2)
   fun z=>z.1=.tup [.int .i64 ((partLoop lt a i j d).1:Int),.bool false]/\Sw h0 b N z.2 (swp (partLoop lt a i j d).2 (partLoop lt a i j d).1 a):=by
 refine z0f (α:=Nat × Nat × Array Int) (fun q=>S.z2e (.sl b 0 N c) (.int .i64 (a:Int)) (.fn f cs) (.int .i64 (q.1:Int)) (.int .i64 (q.2.1:Int)))
  (fun q h=>(1<=q.1/\q.1<=N)/\q.2.1<N/\Sw h0 b N h q.2.2/\partLoop lt a q.1 q.2.1 q.2.2=partLoop lt a i j d) (fun q _=>q.2.1+1-q.1)
  (fun z=>z.1=.exit 4/\z.2.1=S.z6h (.sl b 0 N c) (.int .i64 (a:Int)) (.int .i64 ((partLoop lt a i j d).1:Int))/\(partLoop lt a i j d).1<N/\Sw h0 b N z.2.2 (partLoop lt a i j d).2) (i,j,d) rfl ⟨⟨hi1,hi⟩,hj,A,rfl⟩ ?_ ?_
 rotate_left
 ·rintro⟨_,_,g⟩ ⟨rfl,rfl,hD,A⟩
  show Ev (S.z7i W (.exit 4) _ _) _
  rw[S.zmz]
  generalize partLoop lt a i j d=D at hD A ⊢
  dsimp only at A
  have i1:=zs (b:=b) (c:=c) hD
  have i2:=zs (b:=b) (c:=c) ha
  have l1:=A.ld hD
  have l2:=A.ld ha
  obtain⟨g1,g2,s1,s2,A2,_⟩:=A.swap hD ha
  simp only[S.zgr,i1,i2,zd,zk,l1,l2,s1,s2]
  exact Ev.some ⟨rfl,A2⟩
 generalize partLoop lt a i j d=D
 clear hi1 hi hj A
 rintro⟨i,j,d1⟩ g ⟨⟨hi1,hi⟩,hj,A,hd⟩
 dsimp only at hi1 hi hj A hd
 rw[S.zov]
 refine(z0do A K hN ha hi1 hi hj).mono ?_
 rw[Go.Sort.partLoop_eq] at hd
 have u1:=Go.Sort.scanUp_ge (fun x=>lt x d1[a]!) d1 j i
 rintro⟨x1,e1,g1⟩ ⟨i2,j2,hi2,hj2,hjN,hiN,hz⟩
 have u2:=Go.Sort.scanDown_le (fun x=>!lt x d1[a]!) d1 i2 j
 rw[<-hi2] at u1 hd
 rw[<-hj2] at u2 hd
 rcases hz with ⟨hc,rfl,rfl,A1⟩ | ⟨hc,rfl,rfl,A1⟩
 ·rw[if_pos (show i2 > j2 from hc)] at hd
  subst hd
  exact .inr ⟨by simp,rfl,rfl,hjN,A1⟩
 ·rw[if_neg (show ¬i2 > j2 from hc)] at hd
  exact .inl ⟨(i2+1,j2-1,_),rfl,rfl,⟨⟨Nat.succ_le_succ (Nat.zero_le _),Nat.lt_of_le_of_lt (Nat.not_lt.mp hc) hjN⟩,Nat.lt_of_le_of_lt (Nat.sub_le _ _) hjN,A1,hd⟩,Go.Sort.guard_of u1 u2 hc⟩
theorem z0ao (A:Sw h0 b N h d) (K:Cmp h0 b N f cs lt) (hN:N<=1000) {a e pv:Nat} (hae:a<e) (he:e<=N) (hp:pv<N) :
  Ev (C 457 [.sl b 0 N c,.int .i64 (a:Int),.int .i64 (e:Int),.int .i64 (pv:Int),.fn f cs] h) fun z=>z.1=.tup [.int .i64 ((Go.Sort.partition lt d a e pv).1:Int),.bool (Go.Sort.partition lt d a e pv).2.1]/\Sw h0 b N z.2 (Go.Sort.partition lt d a e pv).2.2:=by
 refine z0e (af:=F.zr) (by kernel_rfl) rfl ?_
 rw[S.zs7]
 obtain⟨m,rfl⟩:∃m,e=m+1:=⟨e-1,by omega⟩
 have n9:N<=9000:=Nat.le_trans hN (by decide)
 have ha:a<N:=Nat.lt_of_lt_of_le hae he
 have w1:=z20 (i:=a) (Nat.le_trans (Nat.le_of_lt ha) n9)
 have w2:=z3n (i:=m) (Nat.le_trans he n9)
 have i1:=zs (b:=b) (c:=c) ha
 have i2:=zs (b:=b) (c:=c) hp
 have l1:=A.ld ha
 have l2:=A.ld hp
 obtain⟨g1,g2,s1,s2,A2,_⟩:=A.swap ha hp
 simp only[S.zr,w1,w2,i1,i2,zd,zk,l1,l2,s1,s2]
 unfold Go.Sort.partition
 dsimp only
 rw[Nat.add_sub_cancel]
 clear A s1 s2 l1 l2 w1 w2
 generalize swp d a pv=d2 at A2 ⊢
 refine z0o8 A2 K hN ha (Nat.succ_le_succ (Nat.zero_le _)) ha he ?_
 intro i3 hq1 hq hqe g A
 rw[<-hqe]
 clear hqe
 show Ev (S.zbz W (.exit 0) _ _) _
 rw[S.zmu]
 simp only[S.zgs]
 refine z0ml A K hN ha hq1 he ?_
 intro j2 hj2 hje g A
 rw[<-hje]
 clear hje
 show Ev (S.zby W (.exit 2) _ _) _
 rw[S.zms]
 by_cases hqi:j2<i3
 ·have i4:=zs (b:=b) (c:=c) hj2
  have l1:=A.ld ha
  have l2:=A.ld hj2
  obtain⟨g1,g2,s1,s2,A2,_⟩:=A.swap hj2 ha
  simp only[S.z9f,z2b hqi,i1,i4,zd,zk,l1,l2,s1,s2,if_pos (show i3 > j2 from hqi)]
  exact Ev.some ⟨rfl,A2⟩
 ·have hiN:i3<N:=Nat.lt_of_le_of_lt (Nat.not_lt.mp hqi) hj2
  have k1:=z37 hqi
  obtain⟨m2,hm⟩:∃m,j2=m+1:=⟨j2-1,by omega⟩
  have w1:=z20 (i:=i3) (Nat.le_trans hq n9)
  have w2:wr .i64 ((j2:Int)-1)=((j2-1:Nat):Int):=by rw[hm]; exact z3n (i:=m2) (Nat.le_trans (hm ▸ Nat.le_of_lt hj2) n9)
  have i3':=zs (b:=b) (c:=c) hiN
  have i4:=zs (b:=b) (c:=c) hj2
  have l1:=A.ld hiN
  have l2:=A.ld hj2
  obtain⟨g1,g2,s1,s2,A2,_⟩:=A.swap hiN hj2
  simp only[S.z9f,k1,w1,w2,i3',i4,zd,zk,l1,l2,s1,s2,if_neg (show ¬i3 > j2 from hqi)]
  exact z0fw A2 K hN ha (Nat.succ_le_succ (Nat.zero_le _)) hiN (Nat.lt_of_le_of_lt (Nat.sub_le _ _) hj2)
end
open Go.Sort (swp PermIn permIn_trans permIn_refl permIn_mono)
def swpR (d:Array Int) (a b:Nat):Nat->Array Int
 | 0=>d
 | n+1=>swp (swpR d a b n) (a+n) (b+n)
theorem z00s (d:Array Int) (a b:Nat):∀n,(swpR d a b n).size=d.size
 | 0=>rfl
 | n+1=>by rw[swpR,Go.Sort.swp_size,z00s d a b n]
theorem z019 {d:Array Int}{a b lo hi:Nat} (hhi:hi<=d.size):∀n,lo<=a->a+n<=hi->lo<=b->b+n<=hi->PermIn lo hi d (swpR d a b n)
 | 0,_,_,_,_=>permIn_refl _ _ _
 | n+1,h1,h2,h3,h4=>by
  have ih:=z019 (d:=d) (a:=a) (b:=b) (lo:=lo) hhi n h1 (by omega) h3 (by omega)
  exact permIn_trans _ _ _ _ _ ih (Go.Sort.swp_permIn _ lo hi _ _ (by omega) (by omega) (by omega) (by omega) (by rw[z00s]; exact hhi))
theorem z03s {d:Array Int}{a b:Nat}:∀n,a+n<=b->b+n<=d.size->∀k,(swpR d a b n)[k]! = if a<=k/\k<a+n then d[b+(k-a)]! else if b<=k/\k<b+n then d[a+(k-b)]! else d[k]!
 | 0,_,_,k=>by rw[if_neg (by omega),if_neg (by omega)]; rfl
 | n+1,h1,h2,k=>by
  have ih:=z03s (d:=d) (a:=a) (b:=b) n (by omega) (by omega)
  rw[swpR]
  by_cases k1:k=b+n
  ·subst k1
   rw[Go.Sort.swp_right _ _ _ (by rw[z00s]; omega),ih,if_neg (by omega),if_neg (by omega),if_neg (by omega),if_pos (by omega)]
   congr 2; omega
  by_cases k2:k=a+n
  ·subst k2
   rw[Go.Sort.swp_left _ _ _ (by rw[z00s]; omega) (by omega),ih,if_neg (by omega),if_neg (by omega),if_pos (by omega)]
   congr 2; omega
  ·rw[Go.Sort.swp_other _ _ _ _ k2 k1,ih]
   by_cases q1:a<=k/\k<a+n
   ·rw[if_pos q1,if_pos (by omega)]
   ·rw[if_neg q1,if_neg (show ¬(a<=k/\k<a+(n+1)) by omega)]
    by_cases q2:b<=k/\k<b+n
    ·rw[if_pos q2,if_pos (by omega)]
    ·rw[if_neg q2,if_neg (by omega)]
def rotA (d:Array Int) (a m b k:Nat):Int :=
 if k<a\/b<=k then d[k]! else if k<a+(b-m) then d[m+(k-a)]! else d[k-(b-m)]!
theorem z0lb {d:Array Int}{m i j:Nat} (hj:j<i) (hi:i<=m) (hb:m+j<=d.size) (k:Nat):rotA (swpR d (m-i) m j) (m-(i-j)) m (m+j) k=rotA d (m-i) m (m+j) k:=by
 have g:=z03s (d:=d) (a:=m-i) (b:=m) j (by omega) hb
 unfold rotA
 by_cases c1:k<m-i\/m+j<=k
 ·rw[if_pos (show k<m-(i-j)\/m+j<=k by omega),if_pos c1,g,if_neg (by omega),if_neg (by omega)]
 rw[if_neg c1]
 by_cases c2:k<m-i+j
 ·rw[if_pos (show k<m-(i-j)\/m+j<=k by omega),if_pos (show k<m-i+(m+j-m) by omega),g,if_pos (by omega)]
 rw[if_neg (show ¬(k<m-(i-j)\/m+j<=k) by omega),if_neg (show ¬k<m-i+(m+j-m) by omega)]
 by_cases c3:k<m-(i-j)+(m+j-m)
 ·rw[if_pos c3,g,if_neg (by omega),if_pos (by omega)]
  congr 1; omega
 ·rw[if_neg c3,g,if_neg (by omega),if_neg (by omega)]
theorem z0kh {d:Array Int}{m i j:Nat} (hj:i<j) (hi:i<=m) (hb:m+j<=d.size) (k:Nat):rotA (swpR d (m-i) (m+j-i) i) (m-i) m (m+(j-i)) k=rotA d (m-i) m (m+j) k:=by
 have g:=z03s (d:=d) (a:=m-i) (b:=m+j-i) i (by omega) (by omega)
 unfold rotA
 by_cases c1:k<m-i\/m+j<=k
 ·rw[if_pos (show k<m-i\/m+(j-i)<=k by omega),if_pos c1,g,if_neg (by omega),if_neg (by omega)]
 rw[if_neg c1]
 by_cases c2:m+(j-i)<=k
 ·rw[if_pos (show k<m-i\/m+(j-i)<=k by omega),if_neg (show ¬k<m-i+(m+j-m) by omega),g,if_neg (by omega),if_pos (by omega)]
  congr 1; omega
 rw[if_neg (show ¬(k<m-i\/m+(j-i)<=k) by omega),if_pos (show k<m-i+(m+j-m) by omega)]
 by_cases c3:k<m-i+(m+(j-i)-m)
 ·rw[if_pos c3,g,if_neg (by omega),if_neg (by omega)]
 ·rw[if_neg c3,g,if_pos (by omega)]
  congr 1; omega
theorem z0ky {d:Array Int}{m i:Nat} (hi:i<=m) (hb:m+i<=d.size) (k:Nat):(swpR d (m-i) m i)[k]! = rotA d (m-i) m (m+i) k:=by
 rw[z03s (d:=d) (a:=m-i) (b:=m) i (by omega) hb]
 unfold rotA
 by_cases c1:k<m-i\/m+i<=k
 ·rw[if_pos c1,if_neg (by omega),if_neg (by omega)]
 rw[if_neg c1]
 by_cases c2:k<m-i+i
 ·rw[if_pos (by omega),if_pos (by omega)]
 ·rw[if_neg (by omega),if_pos (by omega),if_neg (by omega)]
  congr 1; omega
section
variable {h0 h:H}{b N:Nat}{d:Array Int}{c:Cap}
theorem zv6 (A:Sw h0 b N h d) (hN:N<=1000) {a m n:Nat} (ha:a+n<=N) (hm:m+n<=N) (x:V) :
  Ev (C 513 [.sl b 0 N c,.int .i64 (a:Int),.int .i64 (m:Int),.int .i64 (n:Int),x] h) fun z=>z.1=.tup []/\Sw h0 b N z.2 (swpR d a m n):=by
 refine z0e (af:=F.z0n) (by kernel_rfl) rfl ?_
 rw[S.zrv]
 simp only[S.z0n]
 refine z0f (α:=Nat) (fun q=>S.z6m (.sl b 0 N c) (.int .i64 (a:Int)) (.int .i64 (m:Int)) (.int .i64 (n:Int)) (.int .i64 (q:Int)))
  (fun q h=>q<=n/\Sw h0 b N h (swpR d a m q)) (fun q _=>n-q)
  (fun z=>z.1=.exit 0/\z.2.1=S.zaa/\Sw h0 b N z.2.2 (swpR d a m n)) 0 rfl ⟨Nat.zero_le _,A⟩ ?_ ?_
 rotate_left
 ·rintro⟨_,_,g⟩ ⟨rfl,rfl,A⟩
  show Ev (S.zc5 W (.exit 0) _ _) _
  rw[S.zmy]
  exact Ev.some ⟨rfl,A⟩
 clear A
 rintro q g ⟨hq,A⟩
 rw[S.zp4]
 by_cases hqn:q<n
 ·have h1:a+q<N:=by omega
  have h2:m+q<N:=by omega
  have q9:q<=9000:=by omega
  have w1:=zcu (i:=m) (j:=q) (by omega)
  have w2:=zcu (i:=a) (j:=q) (by clear w1; omega)
  have w3:=z20 q9
  have i1:=zs (b:=b) (c:=c) h1
  have i2:=zs (b:=b) (c:=c) h2
  have l1:=A.ld h1
  have l2:=A.ld h2
  obtain⟨g1,g2,s1,s2,A2,_⟩:=A.swap h1 h2
  simp only[S.zan,z2b hqn,w1,w2,w3,i1,i2,zd,zk,l1,l2,s1,s2]
  exact Ev.some (.inl ⟨q+1,rfl,rfl,⟨hqn,A2⟩,Nat.sub_lt_sub_left hqn (Nat.lt_succ_self q)⟩)
 ·have hqe:q=n:=Nat.le_antisymm hq (Nat.le_of_not_lt hqn)
  subst hqe
  simp only[S.zan,z37 hqn]
  exact Ev.some (.inr ⟨by simp,rfl,rfl,A⟩)
theorem z0jd {i j:Nat}:decide ((i:Int)=(j:Int))=decide (i=j):=by rw[decide_eq_decide]; omega
theorem z0fl (A:Sw h0 b N h d) (hN:N<=1000) {a m e:Nat} (ham:a<m) (hme:m<e) (he:e<=N) (x:V) :
  Ev (C 492 [.sl b 0 N c,.int .i64 (a:Int),.int .i64 (m:Int),.int .i64 (e:Int),x] h) fun z=>∃R,z.1=.tup []/\PermIn a e d R/\(∀k,R[k]! = rotA d a m e k)/\Sw h0 b N z.2 R:=by
 refine z0e (af:=F.z0s) (by kernel_rfl) rfl ?_
 rw[S.zv5]
 have n9:N<=9000:=Nat.le_trans hN (by decide)
 have m9:m<=9000:=by omega
 have w1:=z23 (i:=m) (j:=a) (Nat.le_of_lt ham) m9
 have w2:=z23 (i:=e) (j:=m) (Nat.le_of_lt hme) (Nat.le_trans he n9)
 simp only[S.z0s,w1,w2]
 clear w1 w2
 refine z0f (α:=Nat × Nat × Array Int) (fun q=>S.z5g (.sl b 0 N c) (.int .i64 (m:Int)) x (.int .i64 (q.1:Int)) (.int .i64 (q.2.1:Int)))
  (fun q h=>(0<q.1/\0<q.2.1/\q.1<=m-a/\q.2.1<=e-m)/\Sw h0 b N h q.2.2/\PermIn a e d q.2.2/\∀k,rotA q.2.2 (m-q.1) m (m+q.2.1) k=rotA d a m e k) (fun q _=>q.1+q.2.1)
  (fun z=>∃i d',(0<i/\i<=m-a/\i<=e-m)/\z.1=.exit 0/\z.2.1=S.zco (.sl b 0 N c) (.int .i64 (m:Int)) x (.int .i64 (i:Int))/\Sw h0 b N z.2.2 d'/\PermIn a e d d'/\∀k,rotA d' (m-i) m (m+i) k=rotA d a m e k) (m-a,e-m,d) rfl
  ⟨⟨by dsimp only; omega,by dsimp only; omega,Nat.le_refl _,Nat.le_refl _⟩,A,permIn_refl _ _ _,fun k=>by dsimp only; rw[show m-(m-a)=a by omega,show m+(e-m)=e by omega]⟩ ?_ ?_
 ·clear A
  rintro⟨i,j,d1⟩ g ⟨⟨i0,j0,hi,hj⟩,A,hp,hr⟩
  dsimp only at i0 j0 hi hj A hp hr
  have hsz:=A.sz
  rw[S.zsb]
  by_cases hij:i=j
  ·subst hij
   simp only[S.z7x,decide_true,Bool.not_true]
   exact Ev.some (.inr ⟨by simp,i,d1,⟨i0,hi,hj⟩,rfl,rfl,A,hp,hr⟩)
  have i9:i<=m:=by omega
  have z1:m-i+i<=N:=by omega
  by_cases hlt:j<i
  ·have w1:=z23 (i:=m) (j:=i) i9 m9
   have w2:=z23 (i:=i) (j:=j) (Nat.le_of_lt hlt) (by clear w1; omega)
   obtain⟨⟨v,g1⟩,e1,rfl,A1⟩:=zv6 (c:=c) (a:=m-i) (m:=m) (n:=j) A hN (by clear w1 w2; omega) (by clear w1 w2; omega) x
   dsimp only at A1
   simp only[S.z7x,z0jd,decide_eq_false hij,Bool.not_false,z2b hlt,w1,w2,z02,e1,zd]
   clear w1 w2 e1
   refine Ev.some (.inl ⟨(i-j,j,_),rfl,rfl,⟨⟨by dsimp only; omega,j0,by dsimp only; omega,hj⟩,A1,permIn_trans _ _ _ _ _ hp (z019 (by rw[hsz]; exact he) j (by omega) (by omega) (by omega) (by omega)),fun k => ?_⟩,by dsimp only; omega⟩)
   exact(z0lb hlt i9 (by rw[hsz]; omega) k).trans (hr k)
  ·have hlt':i<j:=by omega
   have w1:=z23 (i:=m) (j:=i) i9 m9
   have w2:=zcu (i:=m) (j:=j) (by clear w1; omega)
   have w3:=z23 (i:=m+j) (j:=i) (by clear w1 w2; omega) (by clear w1 w2; omega)
   have w4:=z23 (i:=j) (j:=i) (Nat.le_of_lt hlt') (by clear w1 w2 w3; omega)
   obtain⟨⟨v,g1⟩,e1,rfl,A1⟩:=zv6 (c:=c) (a:=m-i) (m:=m+j-i) (n:=i) A hN z1 (by clear w1 w2 w3 w4; omega) x
   dsimp only at A1
   simp only[S.z7x,z0jd,decide_eq_false hij,Bool.not_false,z37 hlt,w1,w2,w3,w4,z02,e1,zd]
   clear w1 w2 w3 w4 e1
   refine Ev.some (.inl ⟨(i,j-i,_),rfl,rfl,⟨⟨i0,by dsimp only; omega,hi,by dsimp only; omega⟩,A1,permIn_trans _ _ _ _ _ hp (z019 (by rw[hsz]; exact he) i (by omega) (by omega) (by omega) (by omega)),fun k => ?_⟩,by dsimp only; omega⟩)
   exact(z0kh hlt' i9 (by rw[hsz]; omega) k).trans (hr k)
 rintro⟨_,_,g⟩ ⟨i,d1,⟨i0,hi,hj⟩,rfl,rfl,A,hp,hr⟩
 dsimp only at A
 have hsz:=A.sz
 show Ev (S.zea W (.exit 0) _ _) _
 rw[S.zoy]
 have i9:i<=m:=by omega
 have z1:m-i+i<=N:=by omega
 have z2:m+i<=N:=by omega
 obtain⟨⟨v,g1⟩,e1,rfl,A1⟩:=zv6 (c:=c) (a:=m-i) (m:=m) (n:=i) A hN z1 z2 x
 dsimp only at A1
 have w1:=z23 (i:=m) (j:=i) i9 m9
 simp only[S.zig,w1,z02,e1,zd]
 clear w1 e1
 exact Ev.some ⟨_,rfl,permIn_trans _ _ _ _ _ hp (z019 (by rw[hsz]; exact he) i (by omega) (by omega) (by omega) (by omega)),fun k=>(z0ky i9 (by rw[hsz]; exact z2) k).trans (hr k),A1⟩
end
end Wm
end
noncomputable section
namespace Wm
open Go.Sort (swp PermIn SortedIn SWO permIn_trans permIn_refl permIn_mono permIn_all insInner insOuter)
def ltS (lt:Int->Int->Bool) (x y:Int):Bool:=lt x y || (!lt y x && decide (x<y))
theorem z09k {lt:Int->Int->Bool} (h:SWO lt) {x y:Int} (hxy:x<y):ltS lt x y=!lt y x:=by
 unfold ltS
 cases h1:lt y x with
 | true=>rw[h.asymm h1]; rfl
 | false=>simp[hxy]
theorem zzl {lt:Int->Int->Bool}{x y:Int} (hxy:x<y):ltS lt y x=lt y x:=by
 unfold ltS
 rw[decide_eq_false (show ¬y<x by omega),Bool.and_false,Bool.or_false]
theorem z0bw {lt:Int->Int->Bool}{x y:Int}:ltS lt x y=false<->lt x y=false/\(lt y x=true\/y<=x):=by
 unfold ltS
 cases h1:lt x y <;> cases h2:lt y x <;> simp
theorem zz6 {lt:Int->Int->Bool} (h:SWO lt):SWO (ltS lt) where
 irrefl x:=by unfold ltS; simp[h.irrefl x]
 trans x y z h1 h2:=by
  have e1:lt x y=true\/(lt y x=false/\x<y):=by unfold ltS at h1; simpa using h1
  have e2:lt y z=true\/(lt z y=false/\y<z):=by unfold ltS at h2; simpa using h2
  unfold ltS
  cases h3:lt x z with
  | true=>rfl
  | false =>
   have h4:lt z x=false:=by
    cases h5:lt z x with
    | false=>rfl
    | true =>
     rcases e1 with q | ⟨q,_⟩
     ·have:=h.trans _ _ _ h5 q
      rcases e2 with r | ⟨r,_⟩
      ·rw[h.asymm r] at this; cases this
      ·rw[r] at this; cases this
     ·rcases e2 with r | ⟨r,_⟩
      ·have:=h.trans _ _ _ r h5
       rw[q] at this; cases this
      ·have:=h.ntrans _ _ _ r q
       rw[h5] at this; cases this
   rcases e1 with q | ⟨q,q2⟩
   ·rcases e2 with r | ⟨r,r2⟩
    ·rw[h.trans _ _ _ q r] at h3; cases h3
    ·exfalso
     cases h5:lt y z with
     | true=>rw[h.trans _ _ _ q h5] at h3; cases h3
     | false =>
      have:=h.ntrans _ _ _ h3 r
      rw[q] at this; cases this
   ·rcases e2 with r | ⟨r,r2⟩
    ·exfalso
     cases h5:lt x y with
     | true=>rw[h.trans _ _ _ h5 r] at h3; cases h3
     | false =>
      have:=h.ntrans _ _ _ q h3
      rw[r] at this; cases this
    ·simp[h4]; omega
 ntrans x y z h1 h2:=by
  rw[z0bw] at h1 h2 ⊢
  refine⟨h.ntrans _ _ _ h1.1 h2.1,?_⟩
  rcases h1.2 with q | q
  ·rcases h2.2 with r | r
   ·exact .inl (h.trans _ _ _ r q)
   ·cases h5:lt z x with
    | true=>exact .inl rfl
    | false =>
     have:=h.ntrans _ _ _ h2.1 h5
     rw[q] at this; cases this
  ·rcases h2.2 with r | r
   ·cases h5:lt z x with
    | true=>exact .inl rfl
    | false =>
     have:=h.ntrans _ _ _ h5 h1.1
     rw[r] at this; cases this
   ·exact .inr (by omega)
theorem z0jk {lt:Int->Int->Bool} (x y:Int) (h1:ltS lt x y=false) (h2:ltS lt y x=false):x=y:=by
 rw[z0bw] at h1 h2
 rcases h1.2 with q | q
 ·rw[h2.1] at q; cases q
 ·rcases h2.2 with r | r
  ·rw[h1.1] at r; cases r
  ·omega
structure Mg (lt:Int->Int->Bool) (a m e:Nat) (d:Array Int):Prop where
 s1:SortedIn (ltS lt) a m d
 s2:SortedIn (ltS lt) m e d
 old:∀i j,a<=i->i<m->m<=j->j<e->d[i]! < d[j]!
section
variable {lt:Int->Int->Bool}{d R:Array Int}{a m e i:Nat}
theorem z0fp (hlt:SWO lt) (M:Mg lt a m e d) (ham:m=a+1) (hi1:m<=i) (hi:i<=e) (h1:∀k,m<=k->k<i->lt d[k]! d[a]! = true) (h2:∀k,i<=k->k<e->lt d[k]! d[a]! = false) (hR:∀k,R[k]! = rotA d a m i k):SortedIn (ltS lt) a e R:=by
 subst ham
 have v:∀k,a<=k->R[k]! = if k<i-1 then d[k+1]! else if k=i-1 then d[a]! else d[k]! := fun k hk=>by
  rw[hR]; unfold rotA
  by_cases c1:k<i-1
  ·rw[if_neg (by omega),if_pos (by omega),if_pos c1]; congr 1; omega
  ·rw[if_neg c1]
   by_cases c2:k=i-1
   ·rw[if_neg (by omega),if_neg (by omega),if_pos c2]; congr 1; omega
   ·rw[if_pos (by omega),if_neg c2]
 intro p q hp hpq hq
 rw[v p hp,v q (by omega)]
 by_cases p1:p<i-1
 ·rw[if_pos p1]
  by_cases q1:q<i-1
  ·rw[if_pos q1]; exact M.s2 _ _ (by omega) (by omega) (by omega)
  ·rw[if_neg q1]
   by_cases q2:q=i-1
   ·rw[if_pos q2,z09k hlt (M.old a (p+1) (Nat.le_refl _) (by omega) (by omega) (by omega)),h1 (p+1) (by omega) (by omega)]; rfl
   ·rw[if_neg q2]; exact M.s2 _ _ (by omega) (by omega) (by omega)
 ·rw[if_neg p1]
  by_cases p2:p=i-1
  ·rw[if_pos p2,if_neg (by omega),if_neg (by omega),zzl (M.old a q (Nat.le_refl _) (by omega) (by omega) hq)]
   exact h2 q (by omega) hq
  ·rw[if_neg p2,if_neg (by omega),if_neg (by omega)]; exact M.s2 _ _ (by omega) hpq hq
theorem z0ft (hlt:SWO lt) (M:Mg lt a m e d) (hme:e=m+1) (hi1:a<=i) (hi:i<=m) (h1:∀k,a<=k->k<i->lt d[m]! d[k]! = false) (h2:∀k,i<=k->k<m->lt d[m]! d[k]! = true) (hR:∀k,R[k]! = rotA d i m e k):SortedIn (ltS lt) a e R:=by
 subst hme
 have v:∀k,k<m+1->R[k]! = if k<i then d[k]! else if k=i then d[m]! else d[k-1]! := fun k hk=>by
  rw[hR]; unfold rotA
  by_cases c1:k<i
  ·rw[if_pos (by omega),if_pos c1]
  ·rw[if_neg c1]
   by_cases c2:k=i
   ·rw[if_neg (by omega),if_pos (by omega),if_pos c2]; congr 1; omega
   ·rw[if_neg (by omega),if_neg (by omega),if_neg c2]; congr 1; omega
 intro p q hp hpq hq
 rw[v p (by omega),v q hq]
 by_cases p1:p<i
 ·rw[if_pos p1]
  by_cases q1:q<i
  ·rw[if_pos q1]; exact M.s1 _ _ hp hpq (by omega)
  ·rw[if_neg q1]
   by_cases q2:q=i
   ·rw[if_pos q2,zzl (M.old p m hp (by omega) (Nat.le_refl _) (by omega))]; exact h1 p hp p1
   ·rw[if_neg q2]; exact M.s1 _ _ hp (by omega) (by omega)
 ·rw[if_neg p1,if_neg (show ¬q<i by omega),if_neg (show ¬q=i by omega)]
  by_cases p2:p=i
  ·rw[if_pos p2,z09k hlt (M.old (q-1) m (by omega) (by omega) (Nat.le_refl _) (by omega)),h2 (q-1) (by omega) (by omega)]; rfl
  ·rw[if_neg p2]; exact M.s1 _ _ (by omega) (by omega) (by omega)
theorem z0fi (hlt:SWO lt) (M:Mg lt a m e d) {s t:Nat} (hs1:a<=s) (hs:s<=m) (ht1:m<=t) (ht:t<=e) (c1:a<s->t<e->lt d[t]! d[s-1]! = false) (c2:s<m->m<t->lt d[t-1]! d[s]! = true) (hR:∀k,R[k]! = rotA d s m t k) :
  Mg lt a s (s+(t-m)) R/\Mg lt (s+(t-m)) t e R/\∀x y,a<=x->x<s+(t-m)->s+(t-m)<=y->y<e->ltS lt R[y]! R[x]! = false:=by
 have hS:=zz6 hlt
 have v1:∀k,k<s->R[k]! = d[k]! := fun k hk=>by rw[hR]; unfold rotA; rw[if_pos (by omega)]
 have v2:∀k,s<=k->k<s+(t-m)->R[k]! = d[m+(k-s)]! := fun k h1 h2=>by rw[hR]; unfold rotA; rw[if_neg (by omega),if_pos (by omega)]
 have v3:∀k,s+(t-m)<=k->k<t->R[k]! = d[k-(t-m)]! := fun k h1 h2=>by rw[hR]; unfold rotA; rw[if_neg (by omega),if_neg (by omega)]
 have v4:∀k,t<=k->R[k]! = d[k]! := fun k hk=>by rw[hR]; unfold rotA; rw[if_pos (by omega)]
 -- cross
 have le1:∀x y,a<=x->x<s->t<=y->y<e->ltS lt d[y]! d[x]! = false:=fun x y h1 h2 h3 h4=>by
  have k1:=c1 (by omega) (by omega)
  rw[<-zzl (lt:=lt) (M.old (s-1) t (by omega) (by omega) ht1 (by omega))] at k1
  have k2:ltS lt d[s-1]! d[x]! = false:=by
   rcases Nat.lt_or_eq_of_le (show x<=s-1 by omega) with q | q
   ·exact M.s1 x (s-1) h1 q (by omega)
   ·rw[q]; exact hS.irrefl _
  have k3:ltS lt d[y]! d[t]! = false:=by
   rcases Nat.lt_or_eq_of_le h3 with q | q
   ·exact M.s2 t y ht1 q h4
   ·rw[q]; exact hS.irrefl _
  exact hS.ntrans _ _ _ k3 (hS.ntrans _ _ _ k1 k2)
 have lt2:∀x y,s<=x->x<m->m<=y->y<t->ltS lt d[x]! d[y]! = false:=fun x y h1 h2 h3 h4=>by
  have k1:=c2 (by omega) (by omega)
  have k0:ltS lt d[s]! d[t-1]! = false:=by
   rw[z09k hlt (M.old s (t-1) hs1 (by omega) (by omega) (by omega)),k1]; rfl
  have k2:ltS lt d[x]! d[s]! = false:=by
   rcases Nat.lt_or_eq_of_le h1 with q | q
   ·exact M.s1 s x hs1 q h2
   ·rw[q]; exact hS.irrefl _
  have k3:ltS lt d[t-1]! d[y]! = false:=by
   rcases Nat.lt_or_eq_of_le (show y<=t-1 by omega) with q | q
   ·exact M.s2 y (t-1) h3 q (by omega)
   ·rw[q]; exact hS.irrefl _
  exact hS.ntrans _ _ _ k2 (hS.ntrans _ _ _ k0 k3)
 refine⟨⟨fun p q h1 h2 h3 => ?_,fun p q h1 h2 h3 => ?_,fun p q h1 h2 h3 h4 => ?_⟩,⟨fun p q h1 h2 h3 => ?_,fun p q h1 h2 h3 => ?_,fun p q h1 h2 h3 h4 => ?_⟩,fun x y h1 h2 h3 h4 => ?_⟩
 ·rw[v1 p (by omega),v1 q h3]; exact M.s1 p q h1 h2 (by omega)
 ·rw[v2 p h1 (by omega),v2 q (by omega) h3]; exact M.s2 _ _ (by omega) (by omega) (by omega)
 ·rw[v1 p h2,v2 q h3 h4]; exact M.old _ _ h1 (by omega) (by omega) (by omega)
 ·rw[v3 p h1 (by omega),v3 q (by omega) h3]; exact M.s1 _ _ (by omega) (by omega) (by omega)
 ·rw[v4 p h1,v4 q (by omega)]; exact M.s2 _ _ (by omega) h2 h3
 ·rw[v3 p h1 h2,v4 q h3]; exact M.old _ _ (by omega) (by omega) (by omega) h4
 ·by_cases x1:x<s
  ·rw[v1 x x1]
   by_cases y1:y<t
   ·rw[v3 y h3 y1]; exact M.s1 x (y-(t-m)) h1 (by omega) (by omega)
   ·rw[v4 y (by omega)]; exact le1 x y h1 x1 (by omega) h4
  ·rw[v2 x (by omega) h2]
   by_cases y1:y<t
   ·rw[v3 y h3 y1]; exact lt2 (y-(t-m)) (m+(x-s)) (by omega) (by omega) (by omega) (by omega)
   ·rw[v4 y (by omega)]; exact M.s2 _ _ (by omega) (by omega) h4
theorem z0o9 {f:Int->Int->Bool}{mid:Nat} (hL:SortedIn f a mid R) (hR:SortedIn f mid e R) (hx:∀x y,a<=x->x<mid->mid<=y->y<e->f R[y]! R[x]! = false):SortedIn f a e R:=fun p q h1 h2 h3=>by
 by_cases p1:p<mid
 ·by_cases q1:q<mid
  ·exact hL p q h1 h2 q1
  ·exact hx p q h1 p1 (by omega) h3
 ·exact hR p q (by omega) h2 h3
theorem z0i1 {f:Int->Int->Bool}{mid:Nat}{R1 R2:Array Int} (ham:a<=mid) (hme:mid<=e) (he:e<=R.size) (hx:∀x y,a<=x->x<mid->mid<=y->y<e->f R[y]! R[x]! = false) (p1:PermIn a mid R R1) (s1:SortedIn f a mid R1) (p2:PermIn mid e R1 R2) (s2:SortedIn f mid e R2):PermIn a e R R2/\SortedIn f a e R2:=by
 have he1:e<=R1.size:=by rw[p1.1]; exact he
 refine⟨permIn_trans _ _ _ a e (permIn_mono _ _ a mid a e (Nat.le_refl _) hme he p1) (permIn_mono _ _ mid e a e ham (Nat.le_refl _) he1 p2),?_⟩
 have eq2:∀k,k<mid->R2[k]! = R1[k]! := fun k hk=>p2.2.1 k (.inl hk)
 refine z0o9 (s1.congr fun k h1 h2=>eq2 k h2) s2 fun x y h1 h2 h3 h4 => ?_
 have k1:=permIn_all R R1 a mid (fun v=>∀y,mid<=y->y<e->f R[y]! v=false) (by omega) p1 (fun i h1 h2 y h3 h4=>hx i y h1 h2 h3 h4) x h1 h2
 have k2:=permIn_all R1 R2 mid e (fun v=>f v R1[x]! = false) he1 p2 (fun y h3 h4=>by rw[p1.2.1 y (.inr h3)]; exact k1 y h3 h4) y h3 h4
 rw[eq2 x h2]; exact k2
end
end Wm
end
noncomputable section
namespace Wm
attribute [local congr] zi
attribute [local irreducible] wr
open Go.Sort (swp PermIn SortedIn SWO permIn_trans permIn_refl permIn_mono permIn_all)
theorem z01a {x y:Nat} (h:x+y<=9000):wr .i64 ((wr .u64 (wr .i64 ((x:Int)+(y:Int)))) / 2 ^ (min (Int.toNat 1) (Go.IntKind.bits .u64)))=(((x+y) / 2:Nat):Int):=by
 have e1:wr .i64 ((x:Int)+(y:Int))=((x+y:Nat):Int):=by rw[wr64 (by omega) (by omega)]; omega
 have e2:wr .u64 ((x+y:Nat):Int)=((x+y:Nat):Int):=z095 (by omega) (by omega)
 have e3:(2:Int) ^ (min (Int.toNat 1) (Go.IntKind.bits .u64))=2:=by decide
 rw[e1,e2,e3,wr64 (by omega) (by omega)]; omega
def shU (d:Array Int) (a:Nat):Nat->Array Int
 | 0=>d
 | n+1=>swp (shU d a n) (a+n) (a+n+1)
theorem z036 (d:Array Int) (a:Nat):∀n,(shU d a n).size=d.size
 | 0=>rfl
 | n+1=>by rw[shU,Go.Sort.swp_size,z036 d a n]
theorem z0dq {d:Array Int}{a lo hi:Nat} (hhi:hi<=d.size) (h1:lo<=a):∀n,a+n<hi->PermIn lo hi d (shU d a n)
 | 0,_=>permIn_refl _ _ _
 | n+1,h2=>permIn_trans _ _ _ _ _ (z0dq hhi h1 n (by omega)) (Go.Sort.swp_permIn _ lo hi _ _ (by omega) (by omega) (by omega) (by omega) (by rw[z036]; exact hhi))
theorem z0gk {d:Array Int}{a:Nat}:∀n,a+n<d.size->∀k,(shU d a n)[k]! = if k<a\/a+n<k then d[k]! else if k=a+n then d[a]! else d[k+1]!
 | 0,_,k=>by
  show d[k]! = _
  by_cases h:k=a
  ·rw[if_neg (by omega),if_pos (by omega),h]
  ·rw[if_pos (by omega)]
 | n+1,h,k=>by
  have ih:=z0gk (d:=d) (a:=a) n (by omega)
  rw[shU]
  by_cases k1:k=a+n+1
  ·rw[k1,Go.Sort.swp_right _ _ _ (by rw[z036]; omega),ih,if_neg (by omega),if_pos rfl,if_neg (by omega),if_pos (by omega)]
  by_cases k2:k=a+n
  ·rw[k2,Go.Sort.swp_left _ _ _ (by rw[z036]; omega) (by omega),ih,if_pos (by omega),if_neg (by omega),if_neg (by omega)]
  ·rw[Go.Sort.swp_other _ _ _ _ k2 k1,ih]
   by_cases c:k<a\/a+n<k
   ·rw[if_pos c,if_pos (by omega)]
   ·rw[if_neg c,if_neg k2,if_neg (by omega),if_neg (by omega)]
theorem z0mj {d:Array Int}{a i:Nat} (h1:a+1<=i) (h2:i<=d.size) (k:Nat):(shU d a (i-1-a))[k]! = rotA d a (a+1) i k:=by
 rw[z0gk _ (by omega)]
 unfold rotA
 by_cases c:k<a\/i<=k
 ·rw[if_pos (by omega),if_pos c]
 ·rw[if_neg (by omega),if_neg c]
  by_cases c2:k=a+(i-1-a)
  ·rw[if_pos c2,if_neg (by omega)]; congr 1; omega
  ·rw[if_neg c2,if_pos (by omega)]; congr 1; omega
def shD (d:Array Int) (m:Nat):Nat->Array Int
 | 0=>d
 | n+1=>swp (shD d m n) (m-n) (m-n-1)
theorem z02t (d:Array Int) (a:Nat):∀n,(shD d a n).size=d.size
 | 0=>rfl
 | n+1=>by rw[shD,Go.Sort.swp_size,z02t d a n]
theorem z0dj {d:Array Int}{m lo hi:Nat} (hhi:hi<=d.size) (h1:m<hi):∀n,lo+n<=m->PermIn lo hi d (shD d m n)
 | 0,_=>permIn_refl _ _ _
 | n+1,h2=>permIn_trans _ _ _ _ _ (z0dj hhi h1 n (by omega)) (Go.Sort.swp_permIn _ lo hi _ _ (by omega) (by omega) (by omega) (by omega) (by rw[z02t]; exact hhi))
theorem z0gd {d:Array Int}{m:Nat} (hm:m<d.size):∀n,n<=m->∀k,(shD d m n)[k]! = if k<m-n\/m<k then d[k]! else if k=m-n then d[m]! else d[k-1]!
 | 0,_,k=>by
  show d[k]! = _
  by_cases h:k=m
  ·rw[if_neg (by omega),if_pos (by omega),h]
  ·rw[if_pos (by omega)]
 | n+1,h,k=>by
  have ih:=z0gd (d:=d) hm n (by omega)
  rw[shD]
  by_cases k1:k=m-n-1
  ·rw[k1,Go.Sort.swp_right _ _ _ (by rw[z02t]; omega),ih,if_neg (by omega),if_pos rfl,if_neg (by omega),if_pos (by omega)]
  by_cases k2:k=m-n
  ·rw[k2,Go.Sort.swp_left _ _ _ (by rw[z02t]; omega) (by omega),ih,if_pos (by omega),if_neg (by omega),if_neg (by omega)]
  ·rw[Go.Sort.swp_other _ _ _ _ k2 k1,ih]
   by_cases c:k<m-n\/m<k
   ·rw[if_pos c,if_pos (by omega)]
   ·rw[if_neg c,if_neg k2,if_neg (by omega),if_neg (by omega)]
theorem z0m1 {d:Array Int}{m i:Nat} (h1:i<=m) (h2:m<d.size) (k:Nat):(shD d m (m-i))[k]! = rotA d i m (m+1) k:=by
 rw[z0gd h2 _ (by omega)]
 unfold rotA
 by_cases c:k<i\/m+1<=k
 ·rw[if_pos (by omega),if_pos c]
 ·rw[if_neg (by omega),if_neg c]
  by_cases c2:k=m-(m-i)
  ·rw[if_pos c2,if_pos (by omega)]; congr 1; omega
  ·rw[if_neg c2,if_neg (by omega)]; congr 1; omega
section
variable {h0 h:H}{b N f:Nat}{cs:List V}{lt:Int->Int->Bool}{d:Array Int}{c:Cap}
theorem z0ac {i j:Nat} (h:i<j):i<=(i+j) / 2/\(i+j) / 2<j:=by omega
theorem z0n5 {R:Type}{kk:AX × List V × H->Option R}{Q:R->Prop} (A:Sw h0 b N h d) (K:Cmp h0 b N f cs lt) (hN:N<=1000) {a m e:Nat} (ha:a<N) (hme:m<=e) (he:e<=N)
  (mon:∀k k',m<=k->k<=k'->k'<e->lt d[k']! d[a]! = true->lt d[k]! d[a]! = true)
  (out:∀i,m<=i->i<=e->(∀k,m<=k->k<i->lt d[k]! d[a]! = true)->(∀k,i<=k->k<e->lt d[k]! d[a]! = false)->∀g,Sw h0 b N g d->Ev (kk (.exit 0,S.z6y (.sl b 0 N c) (.int .i64 (a:Int)) (.int .i64 (i:Int)),g)) Q) :
  Ev ((W.loop (S.z72 W) (S.z1r (.sl b 0 N c) (.int .i64 (a:Int)) (.fn f cs) (.int .i64 (m:Int)) (.int .i64 (e:Int))) h).bind kk) Q:=by
 refine z0f (α:=Nat × Nat) (fun q=>S.z1r (.sl b 0 N c) (.int .i64 (a:Int)) (.fn f cs) (.int .i64 (q.1:Int)) (.int .i64 (q.2:Int)))
  (fun q h=>(m<=q.1/\q.1<=q.2/\q.2<=e)/\Sw h0 b N h d/\(∀k,m<=k->k<q.1->lt d[k]! d[a]! = true)/\(∀k,q.2<=k->k<e->lt d[k]! d[a]! = false)) (fun q _=>q.2-q.1)
  (fun z=>∃i,(m<=i/\i<=e)/\z.1=.exit 0/\z.2.1=S.z6y (.sl b 0 N c) (.int .i64 (a:Int)) (.int .i64 (i:Int))/\Sw h0 b N z.2.2 d/\(∀k,m<=k->k<i->lt d[k]! d[a]! = true)/\(∀k,i<=k->k<e->lt d[k]! d[a]! = false)) (m,e) rfl ⟨⟨Nat.le_refl _,hme,Nat.le_refl _⟩,A,fun k h1 h2=>absurd h2 (Nat.not_lt.mpr h1),fun k h1 h2=>absurd h2 (Nat.not_lt.mpr h1)⟩ ?_ ?_
 rotate_left
 ·rintro⟨_,_,g⟩ ⟨i,⟨h1,h2⟩,rfl,rfl,A,h3,h4⟩
  exact out i h1 h2 h3 h4 g A
 clear A out
 rintro⟨i,j⟩ g ⟨⟨h1,h2,h3⟩,A,h4,h5⟩
 dsimp only at h1 h2 h3 h4 h5
 rw[S.zpl]
 by_cases hij:i<j
 ·obtain⟨q1,q2⟩:=z0ac hij
  have j9:i+j<=9000:=by omega
  have hc:(i+j) / 2<N:=by omega
  have c9:(i+j) / 2<=9000:=by omega
  have wh:=z01a j9
  generalize (i+j) / 2=q at q1 q2 hc c9 wh
  have w1:=z20 c9
  have i1:=zs (b:=b) (c:=c) hc
  have i2:=zs (b:=b) (c:=c) ha
  have l1:=A.ld hc
  have l2:=A.ld ha
  obtain⟨n,g1,ec,hn,A1,_⟩:=A.cmp K hc ha
  cases hl:lt d[q]! d[a]! with
  | true =>
   simp only[S.z6x,z2b hij,wh,w1,i1,i2,zd,zk,l1,l2,ec,zm,hn,hl]
   clear wh w1
   exact Ev.some (.inl ⟨(q+1,j),rfl,rfl,⟨⟨Nat.le_succ_of_le (Nat.le_trans h1 q1),q2,h3⟩,A1,fun k r1 r2=>mon k q r1 (Nat.le_of_lt_succ r2) (Nat.lt_of_lt_of_le q2 h3) hl,h5⟩,by dsimp only; omega⟩)
  | false =>
   simp only[S.z6x,z2b hij,wh,i1,i2,zd,zk,l1,l2,ec,zm,hn,hl]
   clear wh w1
   refine Ev.some (.inl ⟨(i,q),rfl,rfl,⟨⟨h1,q1,Nat.le_trans (Nat.le_of_lt q2) h3⟩,A1,h4,fun k r1 r2 => ?_⟩,by dsimp only; omega⟩)
   cases hk:lt d[k]! d[a]! with
   | false=>rfl
   | true=>rw[mon q k (Nat.le_trans h1 q1) r1 r2 hk] at hl; cases hl
 ·have he':i=j:=Nat.le_antisymm h2 (Nat.le_of_not_lt hij)
  subst he'
  simp only[S.z6x,z37 hij]
  exact Ev.some (.inr ⟨by simp,i,⟨h1,h3⟩,rfl,rfl,A,h4,h5⟩)
theorem z0ma {R:Type}{kk:AX × List V × H->Option R}{Q:R->Prop} (A:Sw h0 b N h d) (K:Cmp h0 b N f cs lt) (hN:N<=1000) {a m:Nat} (hm:m<N) (ham:a<=m)
  (mon:∀k k',a<=k->k<=k'->k'<m->lt d[m]! d[k]! = true->lt d[m]! d[k']! = true)
  (out:∀i,a<=i->i<=m->(∀k,a<=k->k<i->lt d[m]! d[k]! = false)->(∀k,i<=k->k<m->lt d[m]! d[k]! = true)->∀g,Sw h0 b N g d->Ev (kk (.exit 4,S.z70 (.sl b 0 N c) (.int .i64 (m:Int)) (.int .i64 (i:Int)),g)) Q) :
  Ev ((W.loop (S.z71 W) (S.z1q (.sl b 0 N c) (.int .i64 (m:Int)) (.fn f cs) (.int .i64 (a:Int)) (.int .i64 (m:Int))) h).bind kk) Q:=by
 refine z0f (α:=Nat × Nat) (fun q=>S.z1q (.sl b 0 N c) (.int .i64 (m:Int)) (.fn f cs) (.int .i64 (q.1:Int)) (.int .i64 (q.2:Int)))
  (fun q h=>(a<=q.1/\q.1<=q.2/\q.2<=m)/\Sw h0 b N h d/\(∀k,a<=k->k<q.1->lt d[m]! d[k]! = false)/\(∀k,q.2<=k->k<m->lt d[m]! d[k]! = true)) (fun q _=>q.2-q.1)
  (fun z=>∃i,(a<=i/\i<=m)/\z.1=.exit 4/\z.2.1=S.z70 (.sl b 0 N c) (.int .i64 (m:Int)) (.int .i64 (i:Int))/\Sw h0 b N z.2.2 d/\(∀k,a<=k->k<i->lt d[m]! d[k]! = false)/\(∀k,i<=k->k<m->lt d[m]! d[k]! = true)) (a,m) rfl ⟨⟨Nat.le_refl _,ham,Nat.le_refl _⟩,A,fun k h1 h2=>absurd h2 (Nat.not_lt.mpr h1),fun k h1 h2=>absurd h2 (Nat.not_lt.mpr h1)⟩ ?_ ?_
 rotate_left
 ·rintro⟨_,_,g⟩ ⟨i,⟨h1,h2⟩,rfl,rfl,A,h3,h4⟩
  exact out i h1 h2 h3 h4 g A
 clear A out
 rintro⟨i,j⟩ g ⟨⟨h1,h2,h3⟩,A,h4,h5⟩
 dsimp only at h1 h2 h3 h4 h5
 rw[S.zph]
 by_cases hij:i<j
 ·obtain⟨q1,q2⟩:=z0ac hij
  have j9:i+j<=9000:=by omega
  have hc:(i+j) / 2<N:=by omega
  have c9:(i+j) / 2<=9000:=by omega
  have wh:=z01a j9
  generalize (i+j) / 2=q at q1 q2 hc c9 wh
  have w1:=z20 c9
  have i1:=zs (b:=b) (c:=c) hc
  have i2:=zs (b:=b) (c:=c) hm
  have l1:=A.ld hc
  have l2:=A.ld hm
  obtain⟨n,g1,ec,hn,A1,_⟩:=A.cmp K hm hc
  cases hl:lt d[m]! d[q]! with
  | false =>
   simp only[S.z73,z2b hij,wh,w1,i1,i2,zd,zk,l1,l2,ec,zm,hn,hl,Bool.not_false]
   clear wh w1
   refine Ev.some (.inl ⟨(q+1,j),rfl,rfl,⟨⟨Nat.le_succ_of_le (Nat.le_trans h1 q1),q2,h3⟩,A1,fun k r1 r2 => ?_,h5⟩,by dsimp only; omega⟩)
   cases hk:lt d[m]! d[k]! with
   | false=>rfl
   | true=>rw[mon k q r1 (Nat.le_of_lt_succ r2) (Nat.lt_of_lt_of_le q2 h3) hk] at hl; cases hl
  | true =>
   simp only[S.z73,z2b hij,wh,i1,i2,zd,zk,l1,l2,ec,zm,hn,hl,Bool.not_true]
   clear wh w1
   exact Ev.some (.inl ⟨(i,q),rfl,rfl,⟨⟨h1,q1,Nat.le_trans (Nat.le_of_lt q2) h3⟩,A1,h4,fun k r1 r2=>mon q k (Nat.le_trans h1 q1) r1 r2 hl⟩,by dsimp only; omega⟩)
 ·have he':i=j:=Nat.le_antisymm h2 (Nat.le_of_not_lt hij)
  subst he'
  simp only[S.z73,z37 hij]
  exact Ev.some (.inr ⟨by simp,i,⟨h1,h3⟩,rfl,rfl,A,h4,h5⟩)
theorem z0lt {R:Type}{kk:AX × List V × H->Option R}{Q:R->Prop} (A:Sw h0 b N h d) (K:Cmp h0 b N f cs lt) (hN:N<=1000) {s0 r0 p:Nat}{x1 x2 x3 x18 x19:Int} (hsr:s0<=r0) (hr:r0<=N) (hp:∀k,s0<=k->k<r0->k<=p/\p-k<N) (hp9:p<=9000)
  (mon:∀k k',s0<=k->k<=k'->k'<r0->lt d[p-k]! d[k]! = true->lt d[p-k']! d[k']! = true)
  (out:∀i,s0<=i->i<=r0->(∀k,s0<=k->k<i->lt d[p-k]! d[k]! = false)->(∀k,i<=k->k<r0->lt d[p-k]! d[k]! = true)->∀g,Sw h0 b N g d->Ev (kk (.exit 8,S.z6i (.sl b 0 N c) (.int .i64 x1) (.int .i64 x2) (.int .i64 x3) (.fn f cs) (.int .i64 x18) (.int .i64 x19) (.int .i64 (i:Int)),g)) Q) :
  Ev ((W.loop (S.za9 W) (S.z2c (.sl b 0 N c) (.int .i64 x1) (.int .i64 x2) (.int .i64 x3) (.fn f cs) (.int .i64 x18) (.int .i64 x19) (.int .i64 (s0:Int)) (.int .i64 (r0:Int)) (.int .i64 (p:Int))) h).bind kk) Q:=by
 refine z0f (α:=Nat × Nat) (fun q=>S.z2c (.sl b 0 N c) (.int .i64 x1) (.int .i64 x2) (.int .i64 x3) (.fn f cs) (.int .i64 x18) (.int .i64 x19) (.int .i64 (q.1:Int)) (.int .i64 (q.2:Int)) (.int .i64 (p:Int)))
  (fun q h=>(s0<=q.1/\q.1<=q.2/\q.2<=r0)/\Sw h0 b N h d/\(∀k,s0<=k->k<q.1->lt d[p-k]! d[k]! = false)/\(∀k,q.2<=k->k<r0->lt d[p-k]! d[k]! = true)) (fun q _=>q.2-q.1)
  (fun z=>∃i,(s0<=i/\i<=r0)/\z.1=.exit 8/\z.2.1=S.z6i (.sl b 0 N c) (.int .i64 x1) (.int .i64 x2) (.int .i64 x3) (.fn f cs) (.int .i64 x18) (.int .i64 x19) (.int .i64 (i:Int))/\Sw h0 b N z.2.2 d/\(∀k,s0<=k->k<i->lt d[p-k]! d[k]! = false)/\(∀k,i<=k->k<r0->lt d[p-k]! d[k]! = true)) (s0,r0) rfl ⟨⟨Nat.le_refl _,hsr,Nat.le_refl _⟩,A,fun k h1 h2=>absurd h2 (Nat.not_lt.mpr h1),fun k h1 h2=>absurd h2 (Nat.not_lt.mpr h1)⟩ ?_ ?_
 rotate_left
 ·rintro⟨_,_,g⟩ ⟨i,⟨h1,h2⟩,rfl,rfl,A,h3,h4⟩
  exact out i h1 h2 h3 h4 g A
 clear A out
 rintro⟨i,j⟩ g ⟨⟨h1,h2,h3⟩,A,h4,h5⟩
 dsimp only at h1 h2 h3 h4 h5
 rw[S.zpc]
 by_cases hij:i<j
 ·obtain⟨q1,q2⟩:=z0ac hij
  have j9:i+j<=9000:=by omega
  have hc:(i+j) / 2<N:=by omega
  have c9:(i+j) / 2<=9000:=by omega
  have wh:=z01a j9
  generalize (i+j) / 2=q at q1 q2 hc c9 wh
  obtain⟨p1,p2⟩:=hp q (Nat.le_trans h1 q1) (Nat.lt_of_lt_of_le q2 h3)
  have w1:=z20 c9
  have w2:=z23 p1 hp9
  have i1:=zs (b:=b) (c:=c) p2
  have i2:=zs (b:=b) (c:=c) hc
  have l1:=A.ld p2
  have l2:=A.ld hc
  obtain⟨n,g1,ec,hn,A1,_⟩:=A.cmp K p2 hc
  cases hl:lt d[p-q]! d[q]! with
  | false =>
   simp only[S.z6j,z2b hij,wh,w1,w2,i1,i2,zd,zk,l1,l2,ec,zm,hn,hl,Bool.not_false]
   clear wh w1 w2
   refine Ev.some (.inl ⟨(q+1,j),rfl,rfl,⟨⟨Nat.le_succ_of_le (Nat.le_trans h1 q1),q2,h3⟩,A1,fun k r1 r2 => ?_,h5⟩,by dsimp only; omega⟩)
   cases hk:lt d[p-k]! d[k]! with
   | false=>rfl
   | true=>rw[mon k q r1 (Nat.le_of_lt_succ r2) (Nat.lt_of_lt_of_le q2 h3) hk] at hl; cases hl
  | true =>
   simp only[S.z6j,z2b hij,wh,w2,i1,i2,zd,zk,l1,l2,ec,zm,hn,hl,Bool.not_true]
   clear wh w1 w2
   exact Ev.some (.inl ⟨(i,q),rfl,rfl,⟨⟨h1,q1,Nat.le_trans (Nat.le_of_lt q2) h3⟩,A1,h4,fun k r1 r2=>mon q k (Nat.le_trans h1 q1) r1 r2 hl⟩,by dsimp only; omega⟩)
 ·have he':i=j:=Nat.le_antisymm h2 (Nat.le_of_not_lt hij)
  subst he'
  simp only[S.z6j,z37 hij]
  exact Ev.some (.inr ⟨by simp,i,⟨h1,h3⟩,rfl,rfl,A,h4,h5⟩)
theorem smUp {R:Type}{kk:AX × List V × H->Option R}{Q:R->Prop} (A:Sw h0 b N h d) (hN:N<=1000) {a i:Nat} (hai:a<i) (hi:i<=N)
  (out:∀g,Sw h0 b N g (shU d a (i-1-a))->Ev (kk (.exit 2,S.z75,g)) Q) :
  Ev ((W.loop (S.zb7 W) (S.z46 (.sl b 0 N c) (.int .i64 (i:Int)) (.int .i64 (a:Int))) h).bind kk) Q:=by
 refine z0f (α:=Nat) (fun q=>S.z46 (.sl b 0 N c) (.int .i64 (i:Int)) (.int .i64 ((a+q:Nat):Int)))
  (fun q h=>q<=i-1-a/\Sw h0 b N h (shU d a q)) (fun q _=>i-1-a-q)
  (fun z=>z.1=.exit 2/\z.2.1=S.z75/\Sw h0 b N z.2.2 (shU d a (i-1-a))) 0 rfl ⟨Nat.zero_le _,A⟩ ?_ ?_
 rotate_left
 ·rintro⟨_,_,g⟩ ⟨rfl,rfl,A⟩
  exact out g A
 clear A out
 rintro q g ⟨hq,A⟩
 rw[S.zpy]
 obtain⟨n,hn⟩:∃n,i=n+1:=⟨i-1,by omega⟩
 have w0:wr .i64 ((i:Int)-1)=((i-1:Nat):Int):=by rw[hn]; exact z3n (i:=n) (by omega)
 by_cases hqn:a+q<i-1
 ·have h1:a+q<N:=by clear w0; omega
  have h2:a+q+1<N:=by clear w0; omega
  have w1:=z20 (i:=a+q) (by clear w0; omega)
  have i1:=zs (b:=b) (c:=c) h1
  have i2:=zs (b:=b) (c:=c) h2
  have l1:=A.ld h1
  have l2:=A.ld h2
  obtain⟨g1,g2,s1,s2,A2,_⟩:=A.swap h1 h2
  simp only[S.zb8,w0,z2b hqn,w1,i1,i2,zd,zk,l1,l2,s1,s2]
  clear w0 w1
  exact Ev.some (.inl ⟨q+1,rfl,rfl,⟨by omega,A2⟩,by omega⟩)
 ·have hqe:q=i-1-a:=by clear w0; omega
  subst hqe
  simp only[S.zb8,w0,z37 hqn]
  exact Ev.some (.inr ⟨by simp,rfl,rfl,A⟩)
theorem z0n9 {R:Type}{kk:AX × List V × H->Option R}{Q:R->Prop} (A:Sw h0 b N h d) (hN:N<=1000) {m i:Nat} (him:i<=m) (hm:m<N)
  (out:∀g,Sw h0 b N g (shD d m (m-i))->Ev (kk (.exit 6,S.z77,g)) Q) :
  Ev ((W.loop (S.zaz W) (S.z42 (.sl b 0 N c) (.int .i64 (i:Int)) (.int .i64 (m:Int))) h).bind kk) Q:=by
 refine z0f (α:=Nat) (fun q=>S.z42 (.sl b 0 N c) (.int .i64 (i:Int)) (.int .i64 ((m-q:Nat):Int)))
  (fun q h=>q<=m-i/\Sw h0 b N h (shD d m q)) (fun q _=>m-i-q)
  (fun z=>z.1=.exit 6/\z.2.1=S.z77/\Sw h0 b N z.2.2 (shD d m (m-i))) 0 rfl ⟨Nat.zero_le _,A⟩ ?_ ?_
 rotate_left
 ·rintro⟨_,_,g⟩ ⟨rfl,rfl,A⟩
  exact out g A
 clear A out
 rintro q g ⟨hq,A⟩
 rw[S.zpf]
 by_cases hqn:i<m-q
 ·have h1:m-q<N:=by omega
  have h2:m-q-1<N:=by omega
  obtain⟨n,hn⟩:∃n,m-q=n+1:=⟨m-q-1,by omega⟩
  have w0:wr .i64 (((m-q:Nat):Int)-1)=((m-q-1:Nat):Int):=by rw[hn]; exact z3n (i:=n) (by omega)
  have i1:=zs (b:=b) (c:=c) h1
  have i2:=zs (b:=b) (c:=c) h2
  have l1:=A.ld h1
  have l2:=A.ld h2
  obtain⟨g1,g2,s1,s2,A2,_⟩:=A.swap h1 h2
  simp only[S.zay,w0,z2b hqn,i1,i2,zd,zk,l1,l2,s1,s2]
  clear w0
  exact Ev.some (.inl ⟨q+1,rfl,rfl,⟨by omega,A2⟩,by omega⟩)
 ·have hqe:q=m-i:=by omega
  subst hqe
  simp only[S.zay,z37 hqn]
  exact Ev.some (.inr ⟨by simp,rfl,rfl,A⟩)
end
open Go.Sort (swp PermIn SortedIn SWO permIn_trans permIn_refl permIn_mono permIn_all)
section
variable {h0 h:H}{b N f:Nat}{cs:List V}{lt:Int->Int->Bool}{d:Array Int}{c:Cap}
def zm1 (h0:H) (b N:Nat) (lt:Int->Int->Bool) (a e:Nat) (d:Array Int) (z:V × H):Prop :=
 ∃R,z.1=.tup []/\PermIn a e d R/\SortedIn (ltS lt) a e R/\Sw h0 b N z.2 R
def z098 (h0:H) (b N:Nat) (c:Cap) (f:Nat) (cs:List V) (lt:Int->Int->Bool) (n:Nat):Prop :=
 ∀(a m e:Nat) (d:Array Int) (h:H),e-a<n->a<m->m<e->e<=N->Sw h0 b N h d->Mg lt a m e d ->
  Ev (C 460 [.sl b 0 N c,.int .i64 (a:Int),.int .i64 (m:Int),.int .i64 (e:Int),.fn f cs] h) (zm1 h0 b N lt a e d)
theorem Mg.none {a m e:Nat} (M:Mg lt a m e d) (h:m<=a\/e<=m):SortedIn (ltS lt) a e d:=by
 intro p q h1 h2 h3
 rcases h with h | h
 ·exact M.s2 p q (by omega) h2 h3
 ·exact M.s1 p q h1 h2 (by omega)
theorem Mg.congr {a m e:Nat}{d':Array Int} (M:Mg lt a m e d) (h:∀k,a<=k->k<e->d'[k]! = d[k]!) (ham:a<=m) (hme:m<=e):Mg lt a m e d' :=
 ⟨M.s1.congr fun k h1 h2=>h k h1 (by omega),M.s2.congr fun k h1 h2=>h k (by omega) h2,fun i j h1 h2 h3 h4=>by rw[h i h1 (by omega),h j (by omega) h4]; exact M.old i j h1 h2 h3 h4⟩
theorem z0nr (A:Sw h0 b N h d) {mid t e n:Nat} (ih:z098 h0 b N c f cs lt n) (hn:e-mid<n) (M:Mg lt mid t e d) (he:e<=N) :
  Ev (S.z3r W (.sl b 0 N c) (e:Int) (.fn f cs) (mid:Int) (t:Int) h) (zm1 h0 b N lt mid e d):=by
 by_cases h1:mid<t
 ·by_cases h2:t<e
  ·obtain⟨⟨v,g⟩,e1,R,rfl,r1,r2,A1⟩:=ih mid t e d h hn h1 h2 he A M
   simp only[S.z3r,z2b h1,z2b h2,z02,e1,zd]
   exact Ev.some ⟨R,rfl,r1,r2,A1⟩
  ·simp only[S.z3r,z2b h1,z37 h2]
   exact Ev.some ⟨d,rfl,permIn_refl _ _ _,M.none (.inr (Nat.le_of_not_lt h2)),A⟩
 ·simp only[S.z3r,z37 h1]
  exact Ev.some ⟨d,rfl,permIn_refl _ _ _,M.none (.inl (Nat.le_of_not_lt h1)),A⟩
theorem z0o3 (A:Sw h0 b N h d) {a s mid t e n:Nat} (ih:z098 h0 b N c f cs lt n) (hn1:mid-a<n) (hn:e-mid<n) (M1:Mg lt a s mid d) (M2:Mg lt mid t e d) (hx:∀x y,a<=x->x<mid->mid<=y->y<e->ltS lt d[y]! d[x]! = false) (ham:a<=mid) (hmt:mid<=t) (hte:t<=e) (he:e<=N) :
  Ev (S.zak W (.sl b 0 N c) (a:Int) (e:Int) (.fn f cs) (mid:Int) (s:Int) (t:Int) h) (zm1 h0 b N lt a e d):=by
 have hme:mid<=e:=Nat.le_trans hmt hte
 have key:∀(R:Array Int) (g:H),PermIn a mid d R->SortedIn (ltS lt) a mid R->Sw h0 b N g R->Ev (S.zc2 W .normal (S.z3p (.sl b 0 N c) (.int .i64 (e:Int)) (.fn f cs) (.int .i64 (mid:Int)) (.int .i64 (t:Int))) g) (zm1 h0 b N lt a e d):=by
  intro R g r1 r2 A1
  rw[S.zn4]
  refine(z0nr A1 ih hn (M2.congr (fun k h1 h2=>r1.2.1 k (.inr h1)) hmt hte) he).mono ?_
  rintro⟨v,g2⟩ ⟨R2,rfl,q1,q2,A2⟩
  obtain⟨z1,z2⟩:=z0i1 ham hme (by rw[A.sz]; exact he) hx r1 r2 q1 q2
  exact⟨R2,rfl,z1,z2,A2⟩
 simp only[S.zak]
 rw[S.zpe]
 by_cases h1:a<s
 ·by_cases h2:s<mid
  ·obtain⟨⟨v,g⟩,e1,R,rfl,r1,r2,A1⟩:=ih a s mid d h hn1 h1 h2 (Nat.le_trans hme he) A M1
   dsimp only at A1
   simp only[S.z6p,z2b h1,z2b h2,z02,e1,zd]
   exact key R g r1 r2 A1
  ·simp only[S.z6p,z2b h1,z37 h2,zd]
   exact key d h (permIn_refl _ _ _) (M1.none (.inr (Nat.le_of_not_lt h2))) A
 ·simp only[S.z6p,z37 h1,zd]
  exact key d h (permIn_refl _ _ _) (M1.none (.inl (Nat.le_of_not_lt h1))) A
theorem z0io {d:Array Int}{m t k:Nat}:rotA d m m t k=d[k]! := by
 unfold rotA
 by_cases h:k<m\/t<=k
 ·rw[if_pos h]
 ·rw[if_neg h,if_pos (by omega)]; congr 1; omega
theorem z0ja {d:Array Int}{s m k:Nat}:rotA d s m m k=d[k]! := by
 unfold rotA
 by_cases h:k<s\/m<=k
 ·rw[if_pos h]
 ·rw[if_neg h,if_neg (by omega)]; congr 1; omega
theorem z0og (A:Sw h0 b N h d) (hlt:SWO lt) (hN:N<=1000) {a m e s t mid n:Nat} (ih:z098 h0 b N c f cs lt n) (hn1:mid-a<n) (hn:e-mid<n) (M:Mg lt a m e d) (has:a<=s) (hsm:s<=m) (hmt:m<=t) (hte:t<=e) (he:e<=N) (hmid:mid=s+(t-m))
  (c1:a<s->t<e->lt d[t]! d[s-1]! = false) (c2:s<m->m<t->lt d[t-1]! d[s]! = true) {x19:Int} (ht:wr .i64 (x19-(s:Int))=(t:Int)) :
  Ev (S.z9h W (.sl b 0 N c) (a:Int) (m:Int) (e:Int) (.fn f cs) (mid:Int) x19 (s:Int) h) (zm1 h0 b N lt a e d):=by
 have key:∀(R:Array Int) (g:H),PermIn s t d R->(∀k,R[k]! = rotA d s m t k)->Sw h0 b N g R->Ev (S.zbu W .normal (S.z3k (.sl b 0 N c) (.int .i64 (a:Int)) (.int .i64 (e:Int)) (.fn f cs) (.int .i64 (mid:Int)) (.int .i64 (s:Int)) (.int .i64 (t:Int))) g) (zm1 h0 b N lt a e d):=by
  intro R g r1 hR A1
  rw[S.znr]
  obtain⟨M1,M2,hx⟩:=z0fi hlt M has hsm hmt hte c1 c2 hR
  rw[<-hmid] at M1 M2 hx
  refine(z0o3 A1 ih hn1 hn M1 M2 hx (by omega) (by omega) hte he).mono ?_
  rintro⟨v,g2⟩ ⟨R2,rfl,q1,q2,A2⟩
  exact⟨R2,rfl,permIn_trans _ _ _ _ _ (permIn_mono _ _ s t a e has hte (by rw[A.sz]; exact he) r1) q1,q2,A2⟩
 simp only[S.z9h,ht]
 rw[S.zpd]
 by_cases h1:s<m
 ·by_cases h2:m<t
  ·obtain⟨⟨v,g⟩,e1,R,rfl,r1,r2,A1⟩:=z0fl (c:=c) A hN h1 h2 (Nat.le_trans hte he) (.fn f cs)
   dsimp only at A1
   simp only[S.z6g,z2b h1,z2b h2,z02,e1,zd]
   exact key R g r1 r2 A1
  ·have:t=m:=by omega
   subst this
   simp only[S.z6g,z2b h1,z37 h2,zd]
   exact key d h (permIn_refl _ _ _) (fun k=>z0ja.symm) A
 ·have:s=m:=by omega
  subst this
  simp only[S.z6g,z37 h1,zd]
  exact key d h (permIn_refl _ _ _) (fun k=>z0io.symm) A
theorem z0mk {a m e mid:Nat} (hmid:mid=(a+e) / 2) (h1:a+2<=m) (h2:m+2<=e):a<mid/\mid<e/\mid-a<e-a/\e-mid<e-a /\
  (mid<m->(e<=mid+m/\a<=mid+m-e/\mid+m-e<=mid/\mid+m-e<=m))/\(¬mid<m->m<=mid/\mid+m-1-a<e/\∀k,k<m->k<=mid+m-1/\m<=mid+m-1-k):=by
 refine⟨by omega,by omega,by omega,by omega,fun h=>⟨by omega,by omega,by omega,by omega⟩,fun h=>⟨by omega,by omega,fun k hk=>⟨by omega,by omega⟩⟩⟩
theorem z0el (A:Sw h0 b N h d) (K:Cmp h0 b N f cs lt) (hlt:SWO lt) (hN:N<=1000) {a m e mid s0 r0 n:Nat} (ih:z098 h0 b N c f cs lt n) (M:Mg lt a m e d) (he:e<=N) (hn1:mid-a<n) (hn:e-mid<n)
  (z1:a<=s0) (z2:s0<=r0) (z3:r0<=m) (z4:∀k,s0<=k->k<r0->k<=mid+m-1/\m<=mid+m-1-k/\mid+m-1-k<e) (z5:∀s,s0<=s->s<=r0->m<=mid+m-s/\mid+m-s<=e/\s<=mid) (z6:s0=a\/s0+e=mid+m) (z7:r0=m\/r0=mid) (z8:1<=m) (z9:mid+m<=9000) :
  Ev (S.zag W (.sl b 0 N c) (a:Int) (m:Int) (e:Int) (.fn f cs) (mid:Int) ((mid+m:Nat):Int) (s0:Int) (r0:Int) h) (zm1 h0 b N lt a e d):=by
 have hS:=zz6 hlt
 have hme:m<=e:=Nat.le_trans (z5 r0 z2 (Nat.le_refl _)).1 (z5 r0 z2 (Nat.le_refl _)).2.1
 obtain⟨p,hp⟩:∃p,mid+m=p+1:=⟨mid+m-1,by omega⟩
 have hp':mid+m-1=p:=by omega
 have w1:wr .i64 (((mid+m:Nat):Int)-1)=(p:Int):=by rw[hp]; exact z3n (i:=p) (by omega)
 have cross:∀i j,a<=i->i<m->m<=j->j<e->lt d[j]! d[i]! = ltS lt d[j]! d[i]! := fun i j h1 h2 h3 h4=>(zzl (lt:=lt) (M.old i j h1 h2 h3 h4)).symm
 have ge1:∀k k',a<=k->k<=k'->k'<m->ltS lt d[k']! d[k]! = false:=fun k k' h1 h2 h3=>by
  rcases Nat.lt_or_eq_of_le h2 with q | q
  ·exact M.s1 k k' h1 q h3
  ·rw[q]; exact hS.irrefl _
 have ge2:∀k k',m<=k->k<=k'->k'<e->ltS lt d[k']! d[k]! = false:=fun k k' h1 h2 h3=>by
  rcases Nat.lt_or_eq_of_le h2 with q | q
  ·exact M.s2 k k' h1 q h3
  ·rw[q]; exact hS.irrefl _
 rw[hp'] at z4
 simp only[S.zag,w1]
 clear w1
 refine z0lt A K hN z2 (by omega) (fun k h1 h2=>⟨(z4 k h1 h2).1,Nat.lt_of_lt_of_le (z4 k h1 h2).2.2 he⟩) (by omega) ?_ ?_
 ·intro k k' h1 h2 h3 hk
  obtain⟨y1,y2,y3⟩:=z4 k h1 (Nat.lt_of_le_of_lt h2 h3)
  obtain⟨x1,x2,x3⟩:=z4 k' (Nat.le_trans h1 h2) h3
  rw[cross k' (p-k') (by omega) (by omega) x2 x3]
  rw[cross k (p-k) (by omega) (by omega) y2 y3] at hk
  cases hq:ltS lt d[p-k']! d[k']! with
  | true=>rfl
  | false =>
   have q1:=hS.ntrans _ _ _ hq (ge1 k k' (by omega) h2 (by omega))
   have q2:=hS.ntrans _ _ _ (ge2 (p-k') (p-k) x2 (by omega) y3) q1
   rw[hk] at q2; cases q2
 ·intro s hs1 hs2 hlo hhi g A1
  show Ev (S.zc3 W (.exit 8) _ _) _
  rw[S.zn0]
  obtain⟨y1,y2,y3⟩:=z5 s hs1 hs2
  have wt:wr .i64 (((mid+m:Nat):Int)-(s:Int))=((mid+m-s:Nat):Int):=z23 (by omega) z9
  refine z0og A1 hlt hN ih hn1 hn M (Nat.le_trans z1 hs1) (Nat.le_trans hs2 z3) y1 y2 he (by clear wt; omega) ?_ ?_ wt
  ·clear wt
   intro q1 q2
   by_cases r:s0<s
   ·have:=hlo (s-1) (by omega) (by omega)
    rw[show p-(s-1)=mid+m-s by omega] at this
    exact this
   ·exfalso; rcases z6 with z | z <;> omega
  ·clear wt
   intro q1 q2
   by_cases r:s<r0
   ·have:=hhi s (Nat.le_refl _) r
    rw[show p-s=mid+m-s-1 by omega] at this
    exact this
   ·exfalso; rcases z7 with z | z <;> omega
theorem z0dg {a m:Nat}:decide (((m-a:Nat):Int)=1)=decide (m-a=1):=by rw[decide_eq_decide]; omega
theorem zzk (K:Cmp h0 b N f cs lt) (hlt:SWO lt) (hN:N<=1000):∀n,z098 h0 b N c f cs lt n
 | 0=>fun a m e d h hn=>absurd hn (Nat.not_lt_zero _)
 | n+1=>by
  intro a m e d h hn ham hme he A M
  have ih:=zzk K hlt hN n
  have hS:=zz6 hlt
  have n9:N<=9000:=Nat.le_trans hN (by decide)
  refine z0e (af:=F.zh) (by kernel_rfl) rfl ?_
  rw[S.zse]
  have ge1:∀k k',a<=k->k<=k'->k'<m->ltS lt d[k']! d[k]! = false:=fun k k' h1 h2 h3=>by
   rcases Nat.lt_or_eq_of_le h2 with q | q
   ·exact M.s1 k k' h1 q h3
   ·rw[q]; exact hS.irrefl _
  have ge2:∀k k',m<=k->k<=k'->k'<e->ltS lt d[k']! d[k]! = false:=fun k k' h1 h2 h3=>by
   rcases Nat.lt_or_eq_of_le h2 with q | q
   ·exact M.s2 k k' h1 q h3
   ·rw[q]; exact hS.irrefl _
  have cross:∀i j,a<=i->i<m->m<=j->j<e->lt d[j]! d[i]! = ltS lt d[j]! d[i]! := fun i j h1 h2 h3 h4=>(zzl (lt:=lt) (M.old i j h1 h2 h3 h4)).symm
  have m9:m<=9000:=by omega
  have haN:a<N:=by omega
  have hmN:m<N:=by omega
  by_cases c1:m-a=1
  ·-- one on the left
   have hm1:m=a+1:=by omega
   have fnd:Ev ((W.loop (S.z72 W) (S.z1r (.sl b 0 N c) (.int .i64 (a:Int)) (.fn f cs) (.int .i64 (m:Int)) (.int .i64 (e:Int))) h).bind fun p0=>S.z7q W p0.1 p0.2.1 p0.2.2) (zm1 h0 b N lt a e d):=by
    refine z0n5 A K hN haN (Nat.le_of_lt hme) he ?_ ?_
    ·intro k k' h1 h2 h3 hk
     rw[cross a k' (Nat.le_refl _) ham (by omega) h3] at hk
     rw[cross a k (Nat.le_refl _) ham h1 (by omega)]
     cases hq:ltS lt d[k]! d[a]! with
     | true=>rfl
     | false=>rw[hS.ntrans _ _ _ (ge2 k k' h1 h2 h3) hq] at hk; cases hk
    ·intro i h1 h2 h3 h4 g A1
     show Ev (S.z7q W (.exit 0) _ _) _
     rw[S.znm]
     simp only[S.zh5]
     have hiN:i<=N:=Nat.le_trans h2 he
     refine smUp A1 hN (Nat.lt_of_lt_of_le ham h1) hiN ?_
     intro g2 A2
     show Ev (S.zci W (.exit 2) _ _) _
     rw[S.znw]
     have hsz:i<=d.size:=by rw[A.sz]; exact hiN
     exact Ev.some ⟨_,rfl,z0dq (by rw[A.sz]; exact he) (Nat.le_refl _) _ (by omega),z0fp hlt M hm1 h1 h2 h3 h4 fun k=>by rw[z0mj (by omega) hsz,hm1],A2⟩
   have w1:=z23 (i:=m) (j:=a) (Nat.le_of_lt ham) m9
   obtain⟨aI,haI⟩:∃x:Int,x=(a:Int):=⟨_,rfl⟩
   obtain⟨mI,hmI⟩:∃x:Int,x=(m:Int):=⟨_,rfl⟩
   rw[<-haI] at fnd w1 ⊢; rw[<-hmI] at fnd w1 ⊢
   simp only[S.zh,w1,z0dg,decide_eq_true c1]
   exact fnd
  by_cases c2:e-m=1
  ·-- one on the right
   have he1:e=m+1:=by omega
   have fnd:Ev ((W.loop (S.z71 W) (S.z1q (.sl b 0 N c) (.int .i64 (m:Int)) (.fn f cs) (.int .i64 (a:Int)) (.int .i64 (m:Int))) h).bind fun p0=>S.z7u W p0.1 p0.2.1 p0.2.2) (zm1 h0 b N lt a e d):=by
    refine z0ma A K hN hmN (Nat.le_of_lt ham) ?_ ?_
    ·intro k k' h1 h2 h3 hk
     rw[cross k m h1 (by omega) (Nat.le_refl _) hme] at hk
     rw[cross k' m (by omega) h3 (Nat.le_refl _) hme]
     cases hq:ltS lt d[m]! d[k']! with
     | true=>rfl
     | false=>rw[hS.ntrans _ _ _ hq (ge1 k k' h1 h2 h3)] at hk; cases hk
    ·intro i h1 h2 h3 h4 g A1
     show Ev (S.z7u W (.exit 4) _ _) _
     rw[S.zns]
     simp only[S.zh7]
     refine z0n9 A1 hN h2 hmN ?_
     intro g2 A2
     show Ev (S.zbq W (.exit 6) _ _) _
     rw[S.znt]
     have hsz:m<d.size:=by rw[A.sz]; exact hmN
     exact Ev.some ⟨_,rfl,z0dj (by rw[A.sz]; exact he) hme _ (by omega),z0ft hlt M he1 h1 h2 h3 h4 fun k=>by rw[z0m1 h2 hsz,he1],A2⟩
   have w1:=z23 (i:=m) (j:=a) (Nat.le_of_lt ham) m9
   have w2:=z23 (i:=e) (j:=m) (Nat.le_of_lt hme) (Nat.le_trans he n9)
   obtain⟨aI,haI⟩:∃x:Int,x=(a:Int):=⟨_,rfl⟩
   obtain⟨mI,hmI⟩:∃x:Int,x=(m:Int):=⟨_,rfl⟩
   obtain⟨eI,heI⟩:∃x:Int,x=(e:Int):=⟨_,rfl⟩
   rw[<-haI] at fnd w1 ⊢; rw[<-hmI] at fnd w1 w2 ⊢; rw[<-heI] at w2 ⊢
   simp only[S.zh,w1,w2,z0dg,decide_eq_false c1,decide_eq_true c2]
   exact fnd
  -- both longer
  obtain⟨mid,hmid⟩:∃mid,mid=(a+e) / 2:=⟨_,rfl⟩
  obtain⟨u1,u2,u3,u4,u5,u6⟩:=z0mk hmid (show a+2<=m by omega) (show m+2<=e by omega)
  have hmm:mid+m<=9000:=by omega
  have hml:1<=m:=by omega
  have big:Ev ((S.zas W (S.zae (.sl b 0 N c) (.int .i64 (a:Int)) (.int .i64 (m:Int)) (.int .i64 (e:Int)) (.fn f cs) (.int .i64 (mid:Int)) (.int .i64 ((mid+m:Nat):Int))) h).bind fun p0=>S.z5b W p0.1 p0.2.1 p0.2.2) (zm1 h0 b N lt a e d):=by
   rw[S.zp9]
   by_cases hc:mid<m
   ·obtain⟨v1,v2,v3,v4⟩:=u5 hc
    have w3:=z23 (i:=mid+m) (j:=e) v1 hmm
    simp only[S.zaj,z2b hc,w3,zd]
    clear w3
    show Ev (S.z5b W .normal _ _) _
    rw[S.zew]
    exact z0el A K hlt hN ih M he (by omega) (by omega) v2 v3 (Nat.le_of_lt hc) (fun k h1 h2=>⟨by omega,by omega,by omega⟩) (fun s h1 h2=>⟨by omega,by omega,h2⟩) (.inr (by omega)) (.inr rfl) hml hmm
   ·obtain⟨v1,v2,v3⟩:=u6 hc
    simp only[S.zaj,z37 hc,zd]
    show Ev (S.z5b W .normal _ _) _
    rw[S.zew]
    exact z0el A K hlt hN ih M he (by omega) (by omega) (Nat.le_refl _) (Nat.le_of_lt ham) (Nat.le_refl _) (fun k h1 h2=>⟨(v3 k h2).1,(v3 k h2).2,by omega⟩) (fun s h1 h2=>⟨by omega,by omega,by omega⟩) (.inl rfl) (.inl rfl) hml hmm
  have ae9:a+e<=9000:=by omega
  have w1:=z23 (i:=m) (j:=a) (Nat.le_of_lt ham) m9
  have w2:=z23 (i:=e) (j:=m) (Nat.le_of_lt hme) (Nat.le_trans he n9)
  have w3:=z01a (x:=a) (y:=e) ae9
  have w4:=zcu (i:=mid) (j:=m) hmm
  rw[<-hmid] at w3
  obtain⟨aI,haI⟩:∃x:Int,x=(a:Int):=⟨_,rfl⟩
  obtain⟨mI,hmI⟩:∃x:Int,x=(m:Int):=⟨_,rfl⟩
  obtain⟨eI,heI⟩:∃x:Int,x=(e:Int):=⟨_,rfl⟩
  rw[<-haI] at big w1 w3 ⊢; rw[<-hmI] at big w1 w2 w4 ⊢; rw[<-heI] at big w2 w3 ⊢
  simp only[S.zh,w1,w2,z0dg,decide_eq_false c1,decide_eq_false c2,w3,w4]
  exact big
end
open Go.Sort (swp scanSorted shiftDown shiftUp partialIns)
section
variable {h0 h:H}{b N f:Nat}{cs:List V}{lt:Int->Int->Bool}{d:Array Int}{c:Cap}
theorem z0nf {R:Type}{kk:AX × List V × H->Option R}{Q:R->Prop} (A:Sw h0 b N h d) (K:Cmp h0 b N f cs lt) (hN:N<=1000) {a e i:Nat}{x:Int} (hi1:1<=i) (hi:i<=e) (he:e<=N)
  (out:∀p,i<=p->p<=e->p=scanSorted lt d e i->∀g,Sw h0 b N g d->Ev (kk (.exit 2,S.z1n (.sl b 0 N c) (.int .i64 (a:Int)) (.int .i64 (e:Int)) (.fn f cs) (.int .i64 (p:Int)) (.int .i64 x),g)) Q) :
  Ev ((W.loop (S.z5k W) (S.z1h (.sl b 0 N c) (.int .i64 (a:Int)) (.int .i64 (e:Int)) (.fn f cs) (.int .i64 (i:Int)) (.int .i64 x)) h).bind kk) Q:=by
 refine z0f (α:=Nat) (fun q=>S.z1h (.sl b 0 N c) (.int .i64 (a:Int)) (.int .i64 (e:Int)) (.fn f cs) (.int .i64 (q:Int)) (.int .i64 x))
  (fun q h=>(i<=q/\q<=e)/\Sw h0 b N h d/\scanSorted lt d e q=scanSorted lt d e i) (fun q _=>e-q)
  (fun z=>∃q,(i<=q/\q<=e)/\z.1=.exit 2/\z.2.1=S.z1n (.sl b 0 N c) (.int .i64 (a:Int)) (.int .i64 (e:Int)) (.fn f cs) (.int .i64 (q:Int)) (.int .i64 x)/\Sw h0 b N z.2.2 d/\q=scanSorted lt d e i) i rfl ⟨⟨Nat.le_refl _,hi⟩,A,rfl⟩ ?_ ?_
 rotate_left
 ·rintro⟨_,_,g⟩ ⟨q,⟨hq1,hq⟩,rfl,rfl,A,hqe⟩
  exact out q hq1 hq hqe g A
 rintro q g ⟨⟨hq1,hq⟩,A,hd⟩
 rw[S.zj1]
 rw[scanSorted] at hd
 by_cases hqe:q<e
 ·have hqN:q<N:=Nat.lt_of_lt_of_le hqe he
  obtain⟨m,rfl⟩:∃m,q=m+1:=⟨q-1,by omega⟩
  have hmN:m<N:=Nat.lt_of_succ_lt hqN
  have i1:=zs (b:=b) (c:=c) hqN
  have i2:=zs (b:=b) (c:=c) hmN
  have l1:=A.ld hqN
  have l2:=A.ld hmN
  have k1:=z2b hqe
  obtain⟨n,g1,ec,hn,A1,_⟩:=A.cmp K hqN hmN
  have n9:m+1<=9000:=Nat.le_trans (Nat.le_of_lt hqN) (Nat.le_trans hN (by decide))
  have w1:=z3n n9
  have w2:=z20 n9
  rw[Nat.add_sub_cancel] at hd
  cases hl:lt d[m+1]! d[m]! with
  | false =>
   rw[if_pos (by rw[hl]; simpa using hqe)] at hd
   simp only[S.z2y,k1,w1,i1,i2,zd,zk,l1,l2,ec,zm,hn,hl,w2,Bool.not_false]
   exact Ev.some (.inl ⟨m+1+1,rfl,rfl,⟨⟨Nat.le_succ_of_le hq1,hqe⟩,A1,hd⟩,Nat.sub_lt_sub_left hqe (Nat.lt_succ_self _)⟩)
  | true =>
   rw[if_neg (by rw[hl]; simp)] at hd
   simp only[S.z2y,k1,w1,i1,i2,zd,zk,l1,l2,ec,zm,hn,hl,Bool.not_true]
   exact Ev.some (.inr ⟨by simp,m+1,⟨hq1,hq⟩,rfl,rfl,A1,hd⟩)
 ·rw[if_neg (by simpa using fun z=>absurd z hqe)] at hd
  simp only[S.z2y,z37 hqe]
  exact Ev.some (.inr ⟨by simp,q,⟨hq1,hq⟩,rfl,rfl,A,hd⟩)
theorem z0nc {R:Type}{kk:AX × List V × H->Option R}{Q:R->Prop} (A:Sw h0 b N h d) (K:Cmp h0 b N f cs lt) (hN:N<=1000) {a e i j:Nat}{x:Int} (hj:j<N)
  (out:∀g,Sw h0 b N g (shiftDown lt j d)->Ev (kk (.exit 4,S.z1j (.sl b 0 N c) (.int .i64 (a:Int)) (.int .i64 (e:Int)) (.fn f cs) (.int .i64 (i:Int)) (.int .i64 x),g)) Q) :
  Ev ((W.loop (S.z5o W) (S.z1l (.sl b 0 N c) (.int .i64 (a:Int)) (.int .i64 (e:Int)) (.fn f cs) (.int .i64 (i:Int)) (.int .i64 x) (.int .i64 (j:Int))) h).bind kk) Q:=by
 refine z0f (α:=Nat × Array Int) (fun q=>S.z1l (.sl b 0 N c) (.int .i64 (a:Int)) (.int .i64 (e:Int)) (.fn f cs) (.int .i64 (i:Int)) (.int .i64 x) (.int .i64 (q.1:Int)))
  (fun q h=>q.1<N/\Sw h0 b N h q.2/\shiftDown lt q.1 q.2=shiftDown lt j d) (fun q _=>q.1)
  (fun z=>z.1=.exit 4/\z.2.1=S.z1j (.sl b 0 N c) (.int .i64 (a:Int)) (.int .i64 (e:Int)) (.fn f cs) (.int .i64 (i:Int)) (.int .i64 x)/\Sw h0 b N z.2.2 (shiftDown lt j d)) (j,d) rfl ⟨hj,A,rfl⟩ ?_ ?_
 rotate_left
 ·rintro⟨_,_,g⟩ ⟨rfl,rfl,A⟩
  exact out g A
 generalize shiftDown lt j d=D
 clear out hj A
 rintro⟨q,d1⟩ g ⟨hq,A,hd⟩
 dsimp only at hq A hd
 rw[S.ziq]
 cases q with
 | zero =>
  rw[shiftDown] at hd
  have k1:decide (1<=((0:Nat):Int))=false:=rfl
  simp only[S.z2z,k1]
  exact Ev.some (.inr ⟨by simp,rfl,rfl,hd ▸ A⟩)
 | succ m =>
  have hm:m<N:=Nat.lt_of_succ_lt hq
  have k1:decide (1<=((m+1:Nat):Int))=true:=decide_eq_true (by omega)
  have w1:=z3n (i:=m) (Nat.le_trans (Nat.le_of_lt hq) (Nat.le_trans hN (by decide)))
  have i1:=zs (b:=b) (c:=c) hq
  have i2:=zs (b:=b) (c:=c) hm
  have l1:=A.ld hq
  have l2:=A.ld hm
  obtain⟨n,g1,ec,hn,A1,_⟩:=A.cmp K hq hm
  have l3:=A1.ld hq
  have l4:=A1.ld hm
  obtain⟨g2,g3,s1,s2,A3,_⟩:=A1.swap hq hm
  rw[shiftDown] at hd
  cases hl:lt d1[m+1]! d1[m]! with
  | true =>
   rw[if_neg (by rw[hl]; simp)] at hd
   simp only[S.z2z,k1,w1,i1,i2,zd,zk,l1,l2,ec,zm,hn,hl,Bool.not_true,l3,l4,s1,s2]
   exact Ev.some (.inl ⟨(m,_),rfl,rfl,⟨hm,A3,hd⟩,Nat.lt_succ_self m⟩)
  | false =>
   rw[if_pos (by rw[hl]; rfl)] at hd
   simp only[S.z2z,k1,w1,i1,i2,zd,zk,l1,l2,ec,zm,hn,hl,Bool.not_false]
   exact Ev.some (.inr ⟨by simp,rfl,rfl,hd ▸ A1⟩)
theorem piUp {R:Type}{kk:AX × List V × H->Option R}{Q:R->Prop} (A:Sw h0 b N h d) (K:Cmp h0 b N f cs lt) (hN:N<=1000) {a e i j:Nat}{x:Int} (hj1:1<=j) (he:e<=N)
  (out:∀g,Sw h0 b N g (shiftUp lt e j d)->Ev (kk (.exit 6,S.z1m (.sl b 0 N c) (.int .i64 (a:Int)) (.int .i64 (e:Int)) (.fn f cs) (.int .i64 (i:Int)) (.int .i64 x),g)) Q) :
  Ev ((W.loop (S.z2w W) (S.z0o (.sl b 0 N c) (.int .i64 (a:Int)) (.int .i64 (e:Int)) (.fn f cs) (.int .i64 (i:Int)) (.int .i64 x) (.int .i64 (j:Int))) h).bind kk) Q:=by
 refine z0f (α:=Nat × Array Int) (fun q=>S.z0o (.sl b 0 N c) (.int .i64 (a:Int)) (.int .i64 (e:Int)) (.fn f cs) (.int .i64 (i:Int)) (.int .i64 x) (.int .i64 (q.1:Int)))
  (fun q h=>1<=q.1/\Sw h0 b N h q.2/\shiftUp lt e q.1 q.2=shiftUp lt e j d) (fun q _=>e-q.1)
  (fun z=>z.1=.exit 6/\z.2.1=S.z1m (.sl b 0 N c) (.int .i64 (a:Int)) (.int .i64 (e:Int)) (.fn f cs) (.int .i64 (i:Int)) (.int .i64 x)/\Sw h0 b N z.2.2 (shiftUp lt e j d)) (j,d) rfl ⟨hj1,A,rfl⟩ ?_ ?_
 rotate_left
 ·rintro⟨_,_,g⟩ ⟨rfl,rfl,A⟩
  exact out g A
 generalize shiftUp lt e j d=D
 clear out hj1 A
 rintro⟨q,d1⟩ g ⟨hq1,A,hd⟩
 dsimp only at hq1 A hd
 rw[S.zip]
 rw[shiftUp] at hd
 by_cases hqe:q<e
 ·have hq:q<N:=Nat.lt_of_lt_of_le hqe he
  obtain⟨m,rfl⟩:∃m,q=m+1:=⟨q-1,by omega⟩
  have hm:m<N:=Nat.lt_of_succ_lt hq
  have k1:=z2b hqe
  have n9:m+1<=9000:=Nat.le_trans (Nat.le_of_lt hq) (Nat.le_trans hN (by decide))
  have w1:=z3n n9
  have w2:=z20 n9
  have i1:=zs (b:=b) (c:=c) hq
  have i2:=zs (b:=b) (c:=c) hm
  have l1:=A.ld hq
  have l2:=A.ld hm
  obtain⟨n,g1,ec,hn,A1,_⟩:=A.cmp K hq hm
  have l3:=A1.ld hq
  have l4:=A1.ld hm
  obtain⟨g2,g3,s1,s2,A3,_⟩:=A1.swap hq hm
  rw[if_pos hqe,Nat.add_sub_cancel] at hd
  cases hl:lt d1[m+1]! d1[m]! with
  | true =>
   rw[if_neg (by rw[hl]; simp)] at hd
   simp only[S.z2v,k1,w1,w2,i1,i2,zd,zk,l1,l2,ec,zm,hn,hl,Bool.not_true,l3,l4,s1,s2]
   exact Ev.some (.inl ⟨(m+1+1,_),rfl,rfl,⟨Nat.le_succ_of_le hq1,A3,hd⟩,Nat.sub_lt_sub_left hqe (Nat.lt_succ_self _)⟩)
  | false =>
   rw[if_pos (by rw[hl]; rfl)] at hd
   simp only[S.z2v,k1,w1,w2,i1,i2,zd,zk,l1,l2,ec,zm,hn,hl,Bool.not_false]
   exact Ev.some (.inr ⟨by simp,rfl,rfl,hd ▸ A1⟩)
 ·rw[if_neg hqe] at hd
  simp only[S.z2v,z37 hqe]
  exact Ev.some (.inr ⟨by simp,rfl,rfl,hd ▸ A⟩)
theorem z0nz {k:Nat} (hk:k<=9000):wr .i64 ((k:Int)+1)=((k+1:Nat):Int):=z20 hk
theorem z0gi {k:Nat}:decide ((k:Int)<5)=decide (k<5):=by rw[decide_eq_decide]; omega
theorem z0d0 {i a:Nat}:decide (2<=((i-a:Nat):Int))=decide (i-a>=2):=by rw[decide_eq_decide]; omega
theorem z0a8 {i a:Nat}:decide (((i-a:Nat):Int)<50)=decide (i-a<50):=by rw[decide_eq_decide]; omega
theorem piEq {i a:Nat}:decide ((i:Int)=(a:Int))=decide (i=a):=by rw[decide_eq_decide]; omega
def z0ih (h0:H) (b N:Nat) (c:Cap) (f:Nat) (cs:List V) (lt:Int->Int->Bool) (a e s i k:Nat) (d:Array Int) (z:AX × List V × H):Prop :=
 (z.1=.ret/\z.2.1=S.z0d (.bool (partialIns lt a e (s+1) i d).2)/\Sw h0 b N z.2.2 (partialIns lt a e (s+1) i d).1) \/
 (∃i' d',(i<=i'/\i'<=e)/\z.1=.normal/\z.2.1=S.z01 (.sl b 0 N c) (.int .i64 (a:Int)) (.int .i64 (e:Int)) (.fn f cs) (.int .i64 (i':Int)) (.int .i64 ((k+1:Nat):Int))/\Sw h0 b N z.2.2 d'/\partialIns lt a e (s+1) i d=partialIns lt a e s i' d')
theorem z0b6 (A:Sw h0 b N h d) (K:Cmp h0 b N f cs lt) (hN:N<=1000) {a e i k:Nat} (hk:k<=100) (hie:i<e) (he:e<=N) {Q:AX × List V × H->Prop}
  (out:∀g,Sw h0 b N g (if e-i>=2 then shiftUp lt e (i+1) d else d)->Q (.normal,S.z01 (.sl b 0 N c) (.int .i64 (a:Int)) (.int .i64 (e:Int)) (.fn f cs) (.int .i64 (i:Int)) (.int .i64 ((k+1:Nat):Int)),g)) :
  Ev (S.z2j W (.sl b 0 N c) (a:Int) (e:Int) (.fn f cs) (i:Int) (k:Int) h) Q:=by
 have n9:N<=9000:=Nat.le_trans hN (by decide)
 have w1:=z0nz (k:=k) (Nat.le_trans hk (by decide))
 have w2:=z23 (i:=e) (j:=i) (Nat.le_of_lt hie) (Nat.le_trans he n9)
 have w3:=z20 (i:=i) (Nat.le_trans (Nat.le_of_lt (Nat.lt_of_lt_of_le hie he)) n9)
 by_cases h2:e-i>=2
 ·rw[if_pos h2] at out
  simp only[S.z2j,w2,w3,z0d0,decide_eq_true h2]
  refine piUp A K hN (Nat.succ_le_succ (Nat.zero_le _)) he ?_
  intro g A
  show Ev (S.z38 W (.exit 6) _ _) _
  rw[S.zhg]
  simp only[S.z9x,w1]
  exact Ev.some (out g A)
 ·rw[if_neg h2] at out
  simp only[S.z2j,w2,w1,z0d0,decide_eq_false h2]
  exact Ev.some (out h A)
theorem z0dx (A:Sw h0 b N h d) (K:Cmp h0 b N f cs lt) (hN:N<=1000) {a e i k s:Nat} (hk:k<5) (hai:a<i) (hie:i<=e) (he:e<=N) :
  Ev (S.z2x W (.sl b 0 N c) (a:Int) (e:Int) (.fn f cs) (i:Int) (k:Int) h) (z0ih h0 b N c f cs lt a e s i k d):=by
 have n9:N<=9000:=Nat.le_trans hN (by decide)
 have hk1:k<=100:=Nat.le_trans (Nat.le_of_lt hk) (by decide)
 simp only[S.z2x,z0gi,decide_eq_true hk]
 refine z0nf A K hN (Nat.lt_of_le_of_lt (Nat.zero_le _) hai) hie he ?_
 intro p hp1 hp hpe g A
 show Ev (S.z68 W (.exit 2) _ _) _
 rw[S.zi2]
 unfold z0ih
 rw[partialIns]
 dsimp only
 rw[<-hpe]
 clear hpe
 by_cases hpe:p=e
 ·rw[if_pos hpe]
  simp only[S.z1d,piEq,decide_eq_true hpe]
  exact Ev.some (.inl ⟨rfl,rfl,A⟩)
 rw[if_neg hpe]
 have hlt:p<e:=Nat.lt_of_le_of_ne hp hpe
 have hap:a<p:=Nat.lt_of_lt_of_le hai hp1
 have hpN:p<N:=Nat.lt_of_lt_of_le hlt he
 have w0:=z23 (i:=e) (j:=a) (Nat.le_trans (Nat.le_of_lt hap) hp) (Nat.le_trans he n9)
 by_cases hf:e-a<50
 ·rw[if_pos hf]
  simp only[S.z1d,piEq,decide_eq_false hpe,w0,z0a8,decide_eq_true hf]
  exact Ev.some (.inl ⟨rfl,rfl,A⟩)
 rw[if_neg hf]
 obtain⟨m,rfl⟩:∃m,p=m+1:=⟨p-1,by omega⟩
 have hmN:m<N:=Nat.lt_of_succ_lt hpN
 have w1:=z3n (i:=m) (Nat.le_trans (Nat.le_of_lt hpN) n9)
 have w2:=z23 (i:=m+1) (j:=a) (Nat.le_of_lt hap) (Nat.le_trans (Nat.le_of_lt hpN) n9)
 have i1:=zs (b:=b) (c:=c) hpN
 have i2:=zs (b:=b) (c:=c) hmN
 have l1:=A.ld hpN
 have l2:=A.ld hmN
 obtain⟨g1,g2,s1,s2,A2,_⟩:=A.swap hpN hmN
 rw[Nat.add_sub_cancel]
 clear A
 by_cases h2:m+1-a>=2
 ·rw[if_pos h2]
  simp only[S.z1d,piEq,decide_eq_false hpe,w0,z0a8,decide_eq_false hf,w1,w2,i1,i2,zd,zk,l1,l2,s1,s2,z0d0,decide_eq_true h2]
  refine z0nc A2 K hN hmN ?_
  intro g A
  show Ev (S.z6b W (.exit 4) _ _) _
  rw[S.zhv]
  exact z0b6 A K hN hk1 hlt he fun g A=>.inr ⟨m+1,_,⟨hp1,hp⟩,rfl,rfl,A,rfl⟩
 ·rw[if_neg h2]
  simp only[S.z1d,piEq,decide_eq_false hpe,w0,z0a8,decide_eq_false hf,w1,w2,i1,i2,zd,zk,l1,l2,s1,s2,z0d0,decide_eq_false h2]
  exact z0b6 A2 K hN hk1 hlt he fun g A=>.inr ⟨m+1,_,⟨hp1,hp⟩,rfl,rfl,A,rfl⟩
theorem z02m (A:Sw h0 b N h d) (K:Cmp h0 b N f cs lt) (hN:N<=1000) {a e:Nat} (hae:a<e) (he:e<=N) :
  Ev (C 455 [.sl b 0 N c,.int .i64 (a:Int),.int .i64 (e:Int),.fn f cs] h) fun z=>z.1=.bool (Go.Sort.partialInsertionSort lt d a e).2/\Sw h0 b N z.2 (Go.Sort.partialInsertionSort lt d a e).1:=by
 refine z0e (af:=F.zl) (by kernel_rfl) rfl ?_
 rw[S.zky]
 have n9:N<=9000:=Nat.le_trans hN (by decide)
 have w1:=z20 (i:=a) (Nat.le_trans (Nat.le_of_lt (Nat.lt_of_lt_of_le hae he)) n9)
 simp only[S.zl,w1]
 unfold Go.Sort.partialInsertionSort
 refine z0f (α:=Nat × Nat × Array Int) (fun q=>S.z01 (.sl b 0 N c) (.int .i64 (a:Int)) (.int .i64 (e:Int)) (.fn f cs) (.int .i64 (q.2.1:Int)) (.int .i64 ((5-q.1:Nat):Int)))
  (fun q h=>q.1<=5/\(a<q.2.1/\q.2.1<=e)/\Sw h0 b N h q.2.2/\partialIns lt a e q.1 q.2.1 q.2.2=partialIns lt a e 5 (a+1) d) (fun q _=>q.1)
  (fun z=>((∃v,z.1=.exit 0/\z.2.1=S.z0d v/\(partialIns lt a e 5 (a+1) d).2=false)\/z.1=.ret/\z.2.1=S.z0d (.bool (partialIns lt a e 5 (a+1) d).2))/\Sw h0 b N z.2.2 (partialIns lt a e 5 (a+1) d).1) (5,a+1,d) rfl ⟨Nat.le_refl _,⟨Nat.lt_succ_self a,hae⟩,A,rfl⟩ ?_ ?_
 rotate_left
 ·generalize partialIns lt a e 5 (a+1) d=D
  rintro⟨_,_,g⟩ ⟨⟨v,rfl,rfl,hD⟩ | ⟨rfl,rfl⟩,A⟩
  ·show Ev (S.z1s W (.exit 0) _ _) _
   rw[S.zht,hD]
   exact Ev.some ⟨rfl,A⟩
  ·show Ev (S.z1s W .ret _ _) _
   rw[S.zi8]
   exact Ev.some ⟨rfl,A⟩
 generalize partialIns lt a e 5 (a+1) d=D
 clear A
 rintro⟨s,i,d1⟩ g ⟨hs,⟨hi1,hi⟩,A,hd⟩
 dsimp only at hs hi1 hi A hd
 rw[S.ziz]
 cases s with
 | zero =>
  rw[partialIns] at hd
  subst hd
  simp only[S.z2x,z0gi,Nat.sub_zero,Nat.lt_irrefl,decide_false]
  exact Ev.some (.inr ⟨by simp,.inl ⟨_,rfl,rfl,trivial⟩,A⟩)
 | succ s =>
  have hk:5-(s+1)<5:=by omega
  refine(z0dx (s:=s) A K hN hk hi1 hi he).mono ?_
  rintro⟨x1,e1,g1⟩ (⟨rfl,rfl,A1⟩ | ⟨i',d',⟨hi1',hi'⟩,rfl,rfl,A1,hp⟩)
  ·rw[hd] at A1 ⊢
   exact .inr ⟨by simp,.inr ⟨rfl,rfl⟩,A1⟩
  ·rw[hp] at hd
   refine .inl ⟨(s,i',d'),rfl,?_,⟨Nat.le_of_succ_le hs,⟨Nat.lt_of_lt_of_le hi1 hi1',hi'⟩,A1,hd⟩,Nat.lt_succ_self s⟩
   show S.z01 _ _ _ _ _ _=S.z01 _ _ _ _ _ _
   rw[show 5-(s+1)+1=5-s from by omega]
end
open Go.Sort (swp bitsLen PermIn)
theorem z00j {prog:Nat->Option AFunc}{meth:Nat->Nat->Option Nat}{r n f:Nat}{af:AFunc} (hf:prog f=some af) (hc:af.closed=true) {args:List V}{v:V} (ha:V.flats args=true) (hr:run prog meth r n f args .empty=some (v,.empty)) (h:H):callW prog meth f args h=some (v,h):=by
 cases n with
 | zero=>simp[run] at hr
 | succ n =>
  refine z069 (r:=r) (n:=n+1) ?_
  simp only[run,hf] at hr ⊢
  unfold zeq at hr ⊢
  simp only[hc,ha] at hr ⊢
  simp only[Option.bind_eq_some_iff] at hr ⊢
  obtain⟨p,hp,hr⟩:=hr
  refine⟨p,hp,?_⟩
  split at hr
  ·cases hr; rfl
  ·cases hr
set_option maxRecDepth 100000 in
theorem z0kv:(List.range 65).map (fun n:Nat=>runF prog meth 20 6 488 [.int .i64 (n:Int)] .empty)=(List.range 65).map fun n:Nat=>some (.int .u64 ((2 ^ bitsLen n:Nat):Int),.empty):=by kernel_rfl
theorem z0jl {n:Nat} (hn:n<65) (h:H):C 488 [.int .i64 (n:Int)] h=some (.int .u64 ((2 ^ bitsLen n:Nat):Int),h):=by
 refine z00j (r:=20) (n:=6) (af:=F.zg3) (by kernel_rfl) rfl (by rfl) ?_ h
 rw[<-z02a]
 exact(List.map_inj_left.mp z0kv) n (List.mem_range.mpr hn)
set_option maxRecDepth 100000 in
theorem z0ko:(List.range 65).map (fun n:Nat=>runF prog meth 20 5 406 [.int .u64 (n:Int)] .empty)=(List.range 65).map fun n:Nat=>some (.int .i64 (bitsLen n:Int),.empty):=by kernel_rfl
theorem z0o2 {n:Nat} (hn:n<65) (h:H):C 406 [.int .u64 (n:Int)] h=some (.int .i64 (bitsLen n:Int),h):=by
 refine z00j (r:=20) (n:=5) (af:=F.zq4) (by kernel_rfl) rfl (by rfl) ?_ h
 rw[<-z02a]
 exact(List.map_inj_left.mp z0ko) n (List.mem_range.mpr hn)
theorem z0kz (x:Int) {m:Nat} (hm:m<2 ^ 64):∃o:Nat,z08u x (m:Int)=(o:Int)/\o<=m:=by
 refine⟨_,rfl,?_⟩
 rw[BitVec.toNat_and]
 refine Nat.le_trans Nat.and_le_right ?_
 rw[BitVec.toNat_ofInt]
 omega
section
variable {h0 h:H}{b N f:Nat}{cs:List V}{lt:Int->Int->Bool}{d:Array Int}{c:Cap}
theorem z0ke {q:Nat}{r:Int} (ok:h.ok) (hq:h.get q=some (.cells [.int .u64 r] .rw)) :
  Ev (C 489 [.ptr q 0] h) fun z=>∃r',z.1=.int .u64 r'/\z.2=h.put q (some (.cells [.int .u64 r'] .rw)):=by
 refine z0e (af:=F.z5a) (by kernel_rfl) rfl ?_
 rw[S.z00q]
 have ld:∀ {g:H}{x:Int},g.get q=some (.cells [.int .u64 x] .rw)->ldB (g.get q) 0=some (.int .u64 x):=fun e=>by rw[e]; rfl
 have l1:=ld hq
 have st:∀ {g:H}{x:Int} (y:Int),g.get q=some (.cells [.int .u64 x] .rw)->g.st 1 (.ptr q 0) (.int .u64 y)=some (g.put q (some (.cells [.int .u64 y] .rw))):=fun y e=>zr7 (o:=0) e (by simp) (z97 _ _) (by simp)
 simp only[S.z5a,z9i,zd,zk,l1,zm]
 generalize wr .u64 _=x1
 generalize zy3 _ x1=y1
 have s1:=st y1 hq
 have g1:(h.put q (some (.cells [.int .u64 y1] .rw))).get q=some (.cells [.int .u64 y1] .rw):=zq _ _ _
 have l2:=ld g1
 simp only[s1,zd,l2,zm]
 generalize y1 / _=x2
 generalize zy3 _ x2=y2
 have s2:=st y2 g1
 rw[zce] at s2
 have g2:(h.put q (some (.cells [.int .u64 y2] .rw))).get q=some (.cells [.int .u64 y2] .rw):=zq _ _ _
 have l3:=ld g2
 simp only[s2,zd,l3,zm]
 generalize wr .u64 _=x3
 generalize zy3 _ x3=y3
 have s3:=st y3 g2
 rw[zce] at s3
 have g3:(h.put q (some (.cells [.int .u64 y3] .rw))).get q=some (.cells [.int .u64 y3] .rw):=zq _ _ _
 have l4:=ld g3
 simp only[s3,zd,l4]
 exact Ev.some ⟨y3,rfl,rfl⟩
theorem z0k3 {a e N:Nat} (he:e<=N) (hN:N<=64) (h8:8<=e-a):a+(e-a) / 4 * 2-1+3<=e/\a<=a+(e-a) / 4 * 2-1/\a+(e-a) / 4 * 2-1+2=a+(e-a) / 4 * 2+1/\a<=e/\e-a<65/\e-a<=64/\(e-a) / 4<=64/\a+(e-a) / 4 * 2<=200/\1<=a+(e-a) / 4 * 2/\a+(e-a) / 4 * 2<=9000/\0<e-a/\a+(e-a) / 4 * 2-1<=e:=by omega
theorem z0j5 {a e N P o i:Nat} (he:e<=N) (hN:N<=64) (h8:8<=e-a) (b1:1<=P) (b2:P<=2 * (e-a)) (ho:o<=P-1):o<2 * (e-a)/\o<=200/\o<=9000/\(e-a<=o->o-(e-a)<e-a)/\(¬e-a<=o->o<e-a):=by omega
theorem z0ic {a e N o:Nat} (he:e<=N) (hN:N<=64) (ho:o<e-a):a+o<N/\a+o<=9000/\a+o<e:=by omega
theorem z0iy {a e i:Nat} (h8:8<=e-a) (hl:i<=a+(e-a) / 4 * 2+1):i<e:=by omega
theorem z0mr {e a P:Nat} (h:e-a<=64) (b2:P<=2 * (e-a)):P<=200/\P-1<2 ^ 64:=by omega
theorem z0b1 {n:Nat}:decide (8<=(n:Int))=decide (8<=n):=by rw[decide_eq_decide]; omega
theorem z0ku {n:Nat} (hn:n<=64):wr .i64 (Int.tdiv (n:Int) 4)=((n / 4:Nat):Int):=by
 have:Int.tdiv (n:Int) 4=((n / 4:Nat):Int):=rfl
 rw[this,wr64 (by omega) (by omega)]
theorem z0lu {n:Nat} (hn:n<=64):wr .i64 ((n:Int) * 2)=((n * 2:Nat):Int):=by
 rw[wr64 (by omega) (by omega)]; omega
theorem z0g0 {n:Nat} (hn:n<=64):wr .u64 (n:Int)=(n:Int):=z095 (by omega) (by omega)
theorem z0lg {n:Nat} (h1:1<=n) (hn:n<=200):wr .u64 ((n:Int)-1)=((n-1:Nat):Int):=by rw[z095 (by omega) (by omega)]; omega
theorem z0ly {n:Nat} (hn:n<=200):wr .i64 (n:Int)=(n:Int):=wr64 (by omega) (by omega)
theorem z0j6 {n:Nat} (h1:1<=n) (hn:n<=200):wr .i64 ((n:Int)-1)=((n-1:Nat):Int):=by rw[wr64 (by omega) (by omega)]; omega
theorem z0h1 (A:Sw h0 b N h d) (hN:N<=64) {a e:Nat} (hae:a<=e) (he:e<=N) (x3:V) :
  Ev (C 452 [.sl b 0 N c,.int .i64 (a:Int),.int .i64 (e:Int),x3] h) fun z=>∃d',z.1=.tup []/\PermIn a e d d'/\Sw h0 b N z.2 d':=by
 refine z0e (af:=F.zp) (by kernel_rfl) rfl ?_
 rw[S.zo5]
 have n9:e<=9000:=Nat.le_trans he (Nat.le_trans hN (by decide))
 by_cases h8:8<=e-a
 rotate_left
 ·have w0:=z23 (i:=e) (j:=a) hae n9
  have k0:decide (8<=((e-a:Nat):Int))=false:=z0b1.trans (decide_eq_false h8)
  obtain⟨nI,hnI⟩:∃x:Int,x=((e-a:Nat):Int):=⟨_,rfl⟩
  obtain⟨aI,haI⟩:∃x:Int,x=(a:Int):=⟨_,rfl⟩
  obtain⟨eI,heI⟩:∃x:Int,x=(e:Int):=⟨_,rfl⟩
  rw[<-haI,<-heI]
  rw[<-haI,<-heI,<-hnI] at w0
  rw[<-hnI] at k0
  simp only[S.zp,w0,k0]
  exact Ev.some ⟨d,rfl,Go.Sort.permIn_refl _ _ _,A⟩
 obtain⟨m1,m2,m3,m4,hn,hn',m5,m6,m7,m8,m9,m10⟩:=z0k3 he hN h8
 have w0:=z23 (i:=e) (j:=a) hae n9
 have k0:decide (8<=((e-a:Nat):Int))=true:=z0b1.trans (decide_eq_true h8)
 have wu:=z0g0 hn'
 have wd:=z0ku hn'
 have wm:=z0lu (n:=(e-a) / 4) m5
 have wa:=zcu (i:=a) (j:=(e-a) / 4 * 2) m8
 have wp:=z0j6 (n:=a+(e-a) / 4 * 2) m7 m6
 have ws:=z20 (i:=a+(e-a) / 4 * 2) m8
 obtain⟨q,hq⟩:∃q,q=h.next:=⟨_,rfl⟩
 have hq0:h0.next<=q:=hq ▸ A.fr.le
 have hqb:q≠b:=by rw[hq]; exact fun z=>absurd (A.ok.lt A.at_) (by rw[z]; exact Nat.lt_irrefl _)
 have g0:(h.new (.cells [.int .u64 0] .rw)).get q=some (.cells [.int .u64 0] .rw):=hq ▸ ze _ _
 have A0:Sw h0 b N (h.new (.cells [.int .u64 0] .rw)) d:=A.fr0 ((Fr.refl A.ok).new _)
 have s0:(h.new (.cells [.int .u64 0] .rw)).st 1 (.ptr q 0) (.int .u64 ((e-a:Nat):Int))=some ((h.new (.cells [.int .u64 0] .rw)).put q (some (.cells [.int .u64 ((e-a:Nat):Int)] .rw))):=zr7 (o:=0) g0 (by simp) (z97 _ _) (by simp)
 have A1:Sw h0 b N ((h.new (.cells [.int .u64 0] .rw)).put q (some (.cells [.int .u64 ((e-a:Nat):Int)] .rw))) d:=A0.fr' ((Fr.refl A0.ok).put (.inl (by simp)) (A0.ok.lt g0) _) hq0 hqb
 have g1:=zq (h.new (.cells [.int .u64 0] .rw)) q (some (.cells [.int .u64 ((e-a:Nat):Int)] .rw))
 have p2:=z0jl hn ((h.new (.cells [.int .u64 0] .rw)).put q (some (.cells [.int .u64 ((e-a:Nat):Int)] .rw)))
 have b1:1<=2 ^ bitsLen (e-a):=Nat.one_le_two_pow
 have b2:2 ^ bitsLen (e-a)<=2 * (e-a):=Go.Sort.two_pow_bitsLen_le m9
 obtain⟨nI,hnI⟩:∃x:Int,x=((e-a:Nat):Int):=⟨_,rfl⟩
 obtain⟨aI,haI⟩:∃x:Int,x=(a:Int):=⟨_,rfl⟩
 obtain⟨eI,heI⟩:∃x:Int,x=(e:Int):=⟨_,rfl⟩
 obtain⟨q4,hq4⟩:∃x:Int,x=(((e-a) / 4:Nat):Int):=⟨_,rfl⟩
 obtain⟨q5,hq5⟩:∃x:Int,x=(((e-a) / 4 * 2:Nat):Int):=⟨_,rfl⟩
 obtain⟨q6,hq6⟩:∃x:Int,x=((a+(e-a) / 4 * 2:Nat):Int):=⟨_,rfl⟩
 rw[<-haI,<-heI]
 rw[<-haI,<-heI,<-hnI] at w0
 rw[<-hnI] at k0 wu wd s0 p2 A1 g1
 rw[<-hq4] at wd wm
 rw[<-hq5] at wm
 rw[<-haI,<-hq5,<-hq6] at wa
 rw[<-hq6] at wp ws
 simp only[S.zp,w0,k0,<-hq,wu,s0,zd,z02,p2,wd,wm,wa,wp]
 subst haI heI hnI hq4 hq5 hq6
 generalize 2 ^ bitsLen (e-a)=P at b1 b2
 generalize (h.new (.cells [.int .u64 0] .rw)).put q (some (.cells [.int .u64 ((e-a:Nat):Int)] .rw))=g at A1 g1
 clear p2 s0 g0 A0
 refine z0f (α:=Nat × Array Int) (fun z=>S.z2r (.sl b 0 N c) (.int .i64 (a:Int)) (.int .i64 ((e-a:Nat):Int)) (.ptr q 0) (.int .u64 (P:Int)) (.int .i64 (z.1:Int)))
  (fun z g=>(a<=z.1/\z.1<=e)/\(∃r,g.get q=some (.cells [.int .u64 r] .rw))/\Sw h0 b N g z.2/\PermIn a e d z.2) (fun z _=>e-z.1)
  (fun z=>z.1=.exit 0/\z.2.1=S.z54/\∃d',PermIn a e d d'/\Sw h0 b N z.2.2 d') (a+(e-a) / 4 * 2-1,d) rfl ⟨⟨m2,m10⟩,⟨_,g1⟩,A1,Go.Sort.permIn_refl _ _ _⟩ ?_ ?_
 rotate_left
 ·rintro⟨_,_,g⟩ ⟨rfl,rfl,d',hp,A⟩
  show Ev (S.z9d W (.exit 0) _ _) _
  rw[S.zl2]
  exact Ev.some ⟨d',rfl,hp,A⟩
 clear A A1 g1 g
 rintro⟨i,d1⟩ g ⟨⟨hi1,hi⟩,⟨r,gq⟩,A,hp⟩
 dsimp only at hi1 hi A hp
 rw[S.zmc]
 simp only[S.zej]
 rw[S.zm9]
 by_cases hlast:i<=a+(e-a) / 4 * 2+1
 rotate_left
 ·simp only[S.z89,wd,wm,wa,ws,zhj hlast,zd]
  show Ev (S.z5v W .normal _ _) _
  rw[S.zcl]
  simp only[S.z81]
  exact Ev.some (.inr ⟨by simp,rfl,rfl,d1,hp,A⟩)
 have hie:i<e:=z0iy h8 hlast
 obtain⟨P1,P2⟩:=z0mr hn' b2
 obtain⟨⟨v1,g1⟩,e1,r',rfl,rfl⟩:=z0ke A.ok gq
 obtain⟨o,eo,ho⟩:=z0kz r' (m:=P-1) P2
 obtain⟨o1,o2,o3,o4,o5⟩:=z0j5 (i:=i) he hN h8 b1 b2 ho
 have wP:=z0lg b1 P1
 have wo:=z0ly (n:=o) o2
 simp only[S.z89,wd,wm,wa,ws,zkn hlast,zd]
 show Ev (S.z5v W .normal _ _) _
 rw[S.zcl]
 simp only[S.z81]
 rw[S.zmb]
 simp only[S.zek,z02,e1,zd,zm,wP,eo,wo]
 show Ev (S.z99 W .normal _ _) _
 rw[S.zlg]
 simp only[S.zel]
 have A1:Sw h0 b N (g.put q (some (.cells [.int .u64 r'] .rw))) d1:=A.fr' ((Fr.refl A.ok).put (.inl (by simp)) (A.ok.lt gq) _) hq0 hqb
 have g1:=zq g q (some (.cells [.int .u64 r'] .rw))
 generalize g.put q (some (.cells [.int .u64 r'] .rw))=g2 at A1 g1
 have key:∀o2:Nat,o2<e-a->Ev (S.z87 W (.sl b 0 N c) (a:Int) ((e-a:Nat):Int) (.ptr q 0) (P:Int) (i:Int) (o2:Int) g2) fun r=>(∃a':Nat × Array Int,r.1=.normal/\r.2.1=S.z2r (.sl b 0 N c) (.int .i64 (a:Int)) (.int .i64 ((e-a:Nat):Int)) (.ptr q 0) (.int .u64 (P:Int)) (.int .i64 (a'.1:Int))/\((a<=a'.1/\a'.1<=e)/\(∃r',r.2.2.get q=some (.cells [.int .u64 r'] .rw))/\Sw h0 b N r.2.2 a'.2/\PermIn a e d a'.2)/\e-a'.1<e-i)\/(r.1≠.normal/\(r.1=.exit 0/\r.2.1=S.z54/\∃d',PermIn a e d d'/\Sw h0 b N r.2.2 d')):=by
  intro o2 ho2
  obtain⟨hx,hx9,hxe⟩:=z0ic he hN ho2
  have hiN:i<N:=Nat.lt_of_lt_of_le hie he
  have w3:=zcu (i:=a) (j:=o2) hx9
  have w4:=z20 (i:=i) (Nat.le_trans hi n9)
  have i1:=zs (b:=b) (c:=c) hx
  have i2:=zs (b:=b) (c:=c) hiN
  have l1:=A1.ld hx
  have l2:=A1.ld hiN
  obtain⟨h5,h6,s1,s2,A2,F2⟩:=A1.swap hiN hx
  have g3:=F2.get A1.ok g1 (by simpa using hqb)
  simp only[S.z87,w3,w4,i1,i2,zd,zk,l1,l2,s1,s2]
  exact Ev.some (.inl ⟨(i+1,_),rfl,rfl,⟨⟨Nat.le_succ_of_le hi1,hie⟩,⟨_,g3⟩,A2,Go.Sort.permIn_trans _ _ _ a e hp (Go.Sort.swp_permIn _ a e _ _ hi1 hie (Nat.le_add_right _ _) hxe (by rw[A1.sz]; exact he))⟩,Nat.sub_lt_sub_left hie (Nat.lt_succ_self i)⟩)
 rw[S.zm3]
 by_cases hb:e-a<=o
 ·have w5:=z23 (i:=o) (j:=e-a) hb o3
  simp only[S.z82,zkn hb,w5,zd]
  show Ev (S.z5s W .normal _ _) _
  rw[S.zc8]
  exact key _ (o4 hb)
 ·simp only[S.z82,zhj hb,zd]
  show Ev (S.z5s W .normal _ _) _
  rw[S.zc8]
  exact key _ (o5 hb)
end
open Go.Sort (swp reverseLoop order2 median medianAdjacent)
section
variable {h0 h:H}{b N f:Nat}{cs:List V}{lt:Int->Int->Bool}{d:Array Int}{c:Cap}
theorem z0ee (A:Sw h0 b N h d) (hN:N<=1000) {a e:Nat} (hae:a<e) (he:e<=N) (x3:V) :
  Ev (C 454 [.sl b 0 N c,.int .i64 (a:Int),.int .i64 (e:Int),x3] h) fun z=>z.1=.tup []/\Sw h0 b N z.2 (Go.Sort.reverseRange d a e):=by
 refine z0e (af:=F.z0l) (by kernel_rfl) rfl ?_
 rw[S.zpb]
 obtain⟨m,rfl⟩:∃m,e=m+1:=⟨e-1,by omega⟩
 simp only[S.z0l,z3n (i:=m) (Nat.le_trans he (Nat.le_trans hN (by decide)))]
 unfold Go.Sort.reverseRange
 rw[Nat.add_sub_cancel]
 refine z0f (α:=Nat × Nat × Array Int) (fun q=>S.z5d (.sl b 0 N c) (.int .i64 (q.1:Int)) (.int .i64 (q.2.1:Int)))
  (fun q h=>q.2.1<N/\Sw h0 b N h q.2.2/\reverseLoop q.1 q.2.1 q.2.2=reverseLoop a m d) (fun q _=>q.2.1)
  (fun z=>z.1=.exit 0/\z.2.1=S.z8q/\Sw h0 b N z.2.2 (reverseLoop a m d)) (a,m,d) rfl ⟨he,A,rfl⟩ ?_ ?_
 rotate_left
 ·rintro⟨_,_,g⟩ ⟨rfl,rfl,A⟩
  show Ev (S.z9e W (.exit 0) _ _) _
  rw[S.zlh]
  exact Ev.some ⟨rfl,A⟩
 rintro⟨i,j,d1⟩ g ⟨hj,A,hd⟩
 dsimp only at hj A hd
 rw[S.zmv]
 rw[reverseLoop] at hd
 by_cases hij:i<j
 ·rw[if_pos hij] at hd
  obtain⟨k,rfl⟩:∃k,j=k+1:=⟨j-1,by omega⟩
  rw[Nat.add_sub_cancel] at hd
  have hi:i<N:=Nat.lt_trans hij hj
  have k9:k+1<=9000:=Nat.le_trans (Nat.le_of_lt hj) (Nat.le_trans hN (by decide))
  have k1:=z2b hij
  have w1:=z20 (i:=i) (Nat.le_trans (Nat.le_of_lt hij) k9)
  have w2:=z3n k9
  have i1:=zs (b:=b) (c:=c) hi
  have i2:=zs (b:=b) (c:=c) hj
  have l1:=A.ld hi
  have l2:=A.ld hj
  obtain⟨g1,g2,s1,s2,A2,_⟩:=A.swap hi hj
  simp only[S.z8z,k1,w1,w2,i1,i2,zd,zk,l1,l2,s1,s2]
  exact Ev.some (.inl ⟨(i+1,k,_),rfl,rfl,⟨Nat.lt_of_succ_lt hj,A2,hd⟩,Nat.lt_succ_self k⟩)
 ·rw[if_neg hij] at hd
  simp only[S.z8z,z37 hij]
  exact Ev.some (.inr ⟨by simp,rfl,rfl,hd ▸ A⟩)
structure Ct (h0:H) (b q s:Nat) (h:H):Prop where
 at_:h.get q=some (.cells [.int .i64 (s:Int)] .rw)
 new:h0.next<=q
 ne:q≠b
theorem z01w (A:Sw h0 b N h d) (K:Cmp h0 b N f cs lt) {q s:Nat} (T:Ct h0 b q s h) (hs:s<=100) {i j:Nat} (hi:i<N) (hj:j<N) :
  Ev (C 512 [.sl b 0 N c,.int .i64 (i:Int),.int .i64 (j:Int),.ptr q 0,.fn f cs] h) fun z=>z.1=.tup [.int .i64 ((order2 lt d i j s).1:Int),.int .i64 ((order2 lt d i j s).2.1:Int)]/\Sw h0 b N z.2 d/\Ct h0 b q (order2 lt d i j s).2.2 z.2:=by
 refine z0e (af:=F.z1w) (by kernel_rfl) rfl ?_
 rw[S.zvb]
 have i1:=zs (b:=b) (c:=c) hi
 have i2:=zs (b:=b) (c:=c) hj
 have l1:=A.ld hi
 have l2:=A.ld hj
 obtain⟨n,g1,ec,hn,A1,F1⟩:=A.cmp K hj hi
 have hq1:=F1.get A.ok T.at_ (by simp)
 unfold order2
 cases hl:lt d[j]! d[i]! with
 | false =>
  simp only[S.z1w,i1,i2,zd,zk,l1,l2,ec,zm,hn,hl]
  exact Ev.some ⟨rfl,A1,hq1,T.new,T.ne⟩
 | true =>
  have lq:ldB (g1.get q) 0=some (.int .i64 (s:Int)):=by rw[hq1]; rfl
  have w1:=z20 (i:=s) (Nat.le_trans hs (by decide))
  have sq:=zr7 (o:=0) (v:=.int .i64 ((s+1:Nat):Int)) hq1 (by simp) (z97 _ _) (by simp)
  have F2:Fr [q] g1 (g1.put q (some (.cells [.int .i64 ((s+1:Nat):Int)] .rw))):=(Fr.refl A1.ok).put (.inl (by simp)) (A1.ok.lt hq1) _
  have sq':g1.st 1 (.ptr q 0) (.int .i64 ((s+1:Nat):Int))=some (g1.put q (some (.cells [.int .i64 ((s+1:Nat):Int)] .rw))):=sq
  simp only[S.z1w,i1,i2,zd,zk,l1,l2,ec,zm,hn,hl,z9i,lq,w1,sq']
  exact Ev.some ⟨rfl,A1.fr' F2 T.new T.ne,zq _ _ _,T.new,T.ne⟩
theorem z0b0 (lt:Int->Int->Bool) (d:Array Int) {i j s N:Nat} (hi:i<N) (hj:j<N):(order2 lt d i j s).1<N/\(order2 lt d i j s).2.1<N/\(order2 lt d i j s).2.2<=s+1:=by
 unfold order2
 split
 ·exact⟨hj,hi,Nat.le_refl _⟩
 ·exact⟨hi,hj,Nat.le_succ _⟩
theorem z01j (A:Sw h0 b N h d) (K:Cmp h0 b N f cs lt) {q s:Nat} (T:Ct h0 b q s h) (hs:s<=90) {i j k:Nat} (hi:i<N) (hj:j<N) (hk:k<N) :
  Ev (C 491 [.sl b 0 N c,.int .i64 (i:Int),.int .i64 (j:Int),.int .i64 (k:Int),.ptr q 0,.fn f cs] h) fun z=>z.1=.int .i64 ((median lt d i j k s).1:Int)/\Sw h0 b N z.2 d/\Ct h0 b q (median lt d i j k s).2 z.2:=by
 refine z0e (af:=F.z2i) (by kernel_rfl) rfl ?_
 rw[S.zvl]
 unfold median
 dsimp only
 obtain⟨⟨v1,g1⟩,e1,rfl,A1,T1⟩:=z01w (c:=c) A K T (Nat.le_trans hs (by decide)) hi hj
 dsimp only at A1 T1
 obtain⟨p1,p2,p3⟩:=z0b0 lt d (s:=s) hi hj
 generalize order2 lt d i j s=r1 at e1 T1 p1 p2 p3 ⊢
 have s1:r1.2.2<=91:=Nat.le_trans p3 (Nat.succ_le_succ hs)
 obtain⟨⟨v2,g2⟩,e2,rfl,A2,T2⟩:=z01w (c:=c) A1 K T1 (Nat.le_trans s1 (by decide)) p2 hk
 dsimp only at A2 T2
 obtain⟨q1,q2,q3⟩:=z0b0 lt d (s:=r1.2.2) p2 hk
 generalize order2 lt d r1.2.1 k r1.2.2=r2 at e2 T2 q1 q2 q3 ⊢
 have s2:r2.2.2<=92:=Nat.le_trans q3 (Nat.succ_le_succ s1)
 obtain⟨⟨v3,g3⟩,e3,rfl,A3,T3⟩:=z01w (c:=c) A2 K T2 (Nat.le_trans s2 (by decide)) p1 q1
 dsimp only at A3 T3
 simp only[S.z2i,zd,z02,e1,List.getElem?_cons_zero,List.getElem?_cons_succ,e2,e3]
 exact Ev.some ⟨rfl,A3,T3⟩
theorem zm2 (A:Sw h0 b N h d) (K:Cmp h0 b N f cs lt) (hN:N<=1000) {q s:Nat} (T:Ct h0 b q s h) (hs:s<=90) {i:Nat} (hi:1<=i) (hi':i+1<N) :
  Ev (C 490 [.sl b 0 N c,.int .i64 (i:Int),.ptr q 0,.fn f cs] h) fun z=>z.1=.int .i64 ((medianAdjacent lt d i s).1:Int)/\Sw h0 b N z.2 d/\Ct h0 b q (medianAdjacent lt d i s).2 z.2:=by
 refine z0e (af:=F.z0v) (by kernel_rfl) rfl ?_
 rw[S.zno]
 obtain⟨m,rfl⟩:∃m,i=m+1:=⟨i-1,by omega⟩
 have w1:=z3n (i:=m) (Nat.le_trans (Nat.le_of_lt (Nat.lt_of_succ_lt hi')) (Nat.le_trans hN (by decide)))
 have w2:=z20 (i:=m+1) (Nat.le_trans (Nat.le_of_lt (Nat.lt_of_succ_lt hi')) (Nat.le_trans hN (by decide)))
 unfold medianAdjacent
 rw[Nat.add_sub_cancel]
 obtain⟨⟨v1,g1⟩,e1,rfl,A1,T1⟩:=z01j (c:=c) A K T hs (i:=m) (j:=m+1) (k:=m+1+1) (Nat.lt_of_succ_lt (Nat.lt_of_succ_lt hi')) (Nat.lt_of_succ_lt hi') hi'
 dsimp only at A1 T1
 simp only[S.z0v,w1,w2,zd,z02,e1]
 exact Ev.some ⟨rfl,A1,T1⟩
end
open Go.Sort (swp choosePivot median medianAdjacent Hint)
section
variable {h0 h:H}{b N f:Nat}{cs:List V}{lt:Int->Int->Bool}{d:Array Int}{c:Cap}
def z0od:Hint->Int
 | .unknown=>0
 | .increasing=>1
 | .decreasing=>2
def z08r (n:Nat):Hint:=if n=0 then .increasing else if n=12 then .decreasing else .unknown
theorem z09p (n:Nat):(decide ((n:Int)=0)=true/\z08r n=.increasing)\/(decide ((n:Int)=0)=false/\decide ((n:Int)=12)=true/\z08r n=.decreasing)\/(decide ((n:Int)=0)=false/\decide ((n:Int)=12)=false/\z08r n=.unknown):=by
 unfold z08r
 by_cases h1:n=0
 ·exact .inl ⟨decide_eq_true (by omega),by rw[if_pos h1]⟩
 ·by_cases h2:n=12
  ·exact .inr (.inl ⟨decide_eq_false (by omega),decide_eq_true (by omega),by rw[if_neg h1,if_pos h2]⟩)
  ·exact .inr (.inr ⟨decide_eq_false (by omega),decide_eq_false (by omega),by rw[if_neg h1,if_neg h2]⟩)
theorem z0ka {a e N:Nat} (hae:a<e) (he:e<=N) (hN:N<=1000):wr .i64 ((e:Int)-(a:Int))=((e-a:Nat):Int)/\wr .i64 (Int.tdiv ((e-a:Nat):Int) 4)=(((e-a) / 4:Nat):Int) /\
  (∀k:Nat,k<=3->wr .i64 ((((e-a) / 4:Nat):Int) * (k:Int))=(((e-a) / 4 * k:Nat):Int)/\wr .i64 ((a:Int)+(((e-a) / 4 * k:Nat):Int))=((a+(e-a) / 4 * k:Nat):Int)/\a+(e-a) / 4 * k<e/\(50<=e-a->1<=k->1<=a+(e-a) / 4 * k/\a+(e-a) / 4 * k+1<N)):=by
 refine⟨z23 (Nat.le_of_lt hae) (by omega),?_,fun k hk => ?_⟩
 ·have e2:Int.tdiv ((e-a:Nat):Int) 4=(((e-a) / 4:Nat):Int):=rfl
  rw[e2,wr64 (by omega) (by omega)]
 ·generalize hl:e-a=l
  have h1:l / 4 * k<=l / 4 * 3:=Nat.mul_le_mul_left _ hk
  have h2:l / 4 * 3<l:=by omega
  have h4:l / 4 * 1<=l / 4 * k\/k=0:=by
   cases k with
   | zero=>exact .inr rfl
   | succ k=>exact .inl (Nat.mul_le_mul_left _ (Nat.succ_le_succ (Nat.zero_le _)))
  generalize hm:l / 4 * k=m at *
  refine⟨?_,zcu (by omega),by omega,fun h50 hk1 => ?_⟩
  ·rw[<-Int.natCast_mul,hm,wr64 (by omega) (by omega)]
  ·rcases h4 with h4 | h4
   ·omega
   ·omega
theorem z0ab (lt:Int->Int->Bool) (d:Array Int) {i s N:Nat} (h1:1<=i) (h2:i+1<N):(medianAdjacent lt d i s).1<N:=by
 have h3:i<N:=Nat.lt_of_succ_lt h2
 rcases Go.Sort.medianAdjacent_mem lt d i s with q | q | q <;> rw[q]
 ·exact Nat.lt_of_le_of_lt (Nat.sub_le _ _) h3
 ·exact h3
 ·exact h2
theorem choose_spec (A:Sw h0 b N h d) (K:Cmp h0 b N f cs lt) (hN:N<=1000) {a e:Nat} (hae:a<e) (he:e<=N) :
    Ev (C 453 [.sl b 0 N c,.int .i64 (a:Int),.int .i64 (e:Int),.fn f cs] h) fun z=>z.1=.tup [.int .i64 ((choosePivot lt d a e).1:Int),.int .i64 (z0od (choosePivot lt d a e).2)]/\Sw h0 b N z.2 d:=by
  refine z0e (af:=F.z05) (by kernel_rfl) rfl ?_
  rw[S.zpv]
  obtain⟨w1,w2,ws⟩:=z0ka hae he hN
  obtain⟨u1,v1,o1,p1⟩:=ws 1 (by decide)
  obtain⟨u2,v2,o2,p2⟩:=ws 2 (by decide)
  obtain⟨u3,v3,o3,p3⟩:=ws 3 (by decide)
  clear ws
  have hb:b<h.next:=A.ok.lt A.at_
  have F0:Fr [] h (h.new (.cells [.int .i64 0] .rw)):=(Fr.refl A.ok).new _
  have A0:=A.fr0 F0
  have T0:Ct h0 b h.next 0 (h.new (.cells [.int .i64 0] .rw)):=⟨ze _ _,A.fr.le,fun q=>Nat.lt_irrefl _ (q ▸ hb)⟩
  have n1:=Nat.lt_of_lt_of_le o1 he
  have n2:=Nat.lt_of_lt_of_le o2 he
  have n3:=Nat.lt_of_lt_of_le o3 he
  have hc : choosePivot lt d a e = ((if e - a ≥ 8 then if e - a ≥ 50 then
        median lt d (medianAdjacent lt d (a+(e-a) / 4 * 1) 0).1 (medianAdjacent lt d (a+(e-a) / 4 * 2) (medianAdjacent lt d (a+(e-a) / 4 * 1) 0).2).1 (medianAdjacent lt d (a+(e-a) / 4 * 3) (medianAdjacent lt d (a+(e-a) / 4 * 2) (medianAdjacent lt d (a+(e-a) / 4 * 1) 0).2).2).1 (medianAdjacent lt d (a+(e-a) / 4 * 3) (medianAdjacent lt d (a+(e-a) / 4 * 2) (medianAdjacent lt d (a+(e-a) / 4 * 1) 0).2).2).2
      else median lt d (a+(e-a) / 4 * 1) (a+(e-a) / 4 * 2) (a+(e-a) / 4 * 3) 0 else (a+(e-a) / 4 * 2,0):Nat × Nat).1,z08r (if e-a>=8 then if e-a>=50 then
        median lt d (medianAdjacent lt d (a+(e-a) / 4 * 1) 0).1 (medianAdjacent lt d (a+(e-a) / 4 * 2) (medianAdjacent lt d (a+(e-a) / 4 * 1) 0).2).1 (medianAdjacent lt d (a+(e-a) / 4 * 3) (medianAdjacent lt d (a+(e-a) / 4 * 2) (medianAdjacent lt d (a+(e-a) / 4 * 1) 0).2).2).1 (medianAdjacent lt d (a+(e-a) / 4 * 3) (medianAdjacent lt d (a+(e-a) / 4 * 2) (medianAdjacent lt d (a+(e-a) / 4 * 1) 0).2).2).2
      else median lt d (a+(e-a) / 4 * 1) (a+(e-a) / 4 * 2) (a+(e-a) / 4 * 3) 0 else (a+(e-a) / 4 * 2,0):Nat × Nat).2):=rfl
  rw[hc]
  clear hc
  obtain⟨aI,hai⟩:∃x:Int,x=(a:Int):=⟨_,rfl⟩
  obtain⟨eI,hei⟩:∃x:Int,x=(e:Int):=⟨_,rfl⟩
  obtain⟨lI,hli⟩:∃x:Int,x=((e-a:Nat):Int):=⟨_,rfl⟩
  obtain⟨qI,hqi⟩:∃x:Int,x=(((e-a) / 4:Nat):Int):=⟨_,rfl⟩
  rw[<-hai,<-hei]
  rw[<-hai,<-hei,<-hli] at w1
  rw[<-hli,<-hqi] at w2
  rw[<-hqi] at u1 u2 u3
  rw[<-hai] at v1 v2 v3
  have u1':wr .i64 (qI * 1)=_:=u1
  have u2':wr .i64 (qI * 2)=_:=u2
  have u3':wr .i64 (qI * 3)=_:=u3
  by_cases h8:8<=e-a
  · have k8:decide ((8:Int)<=lI)=true:=by rw[hli]; exact decide_eq_true (by exact_mod_cast h8)
    by_cases h50:50<=e-a
    · have k50:decide ((50:Int)<=lI)=true:=by rw[hli]; exact decide_eq_true (by exact_mod_cast h50)
      simp only[if_pos h8,if_pos h50,ge_iff_le]
      obtain⟨p1a,p1b⟩:=p1 h50 (by decide)
      obtain⟨p2a,p2b⟩:=p2 h50 (by decide)
      obtain⟨p3a,p3b⟩:=p3 h50 (by decide)
      obtain⟨⟨x1,g1⟩,e1,rfl,A1,T1⟩:=zm2 (c:=c) A0 K hN T0 (by decide) p1a p1b
      dsimp only at A1 T1
      have m1:=z0ab lt d (s:=0) p1a p1b
      have z1:(medianAdjacent lt d (a+(e-a) / 4 * 1) 0).2<=3:=Go.Sort.medianAdjacent_count lt d _ 0
      generalize medianAdjacent lt d (a+(e-a) / 4 * 1) 0=r1 at e1 T1 m1 z1 ⊢
      obtain⟨⟨x2,g2⟩,e2,rfl,A2,T2⟩:=zm2 (c:=c) A1 K hN T1 (Nat.le_trans z1 (by decide)) p2a p2b
      dsimp only at A2 T2
      have m2:=z0ab lt d (s:=r1.2) p2a p2b
      have z2:(medianAdjacent lt d (a+(e-a) / 4 * 2) r1.2).2<=6:=Nat.le_trans (Go.Sort.medianAdjacent_count lt d _ _) (Nat.add_le_add_right z1 3)
      generalize medianAdjacent lt d (a+(e-a) / 4 * 2) r1.2=r2 at e2 T2 m2 z2 ⊢
      obtain⟨⟨x3,g3⟩,e3,rfl,A3,T3⟩:=zm2 (c:=c) A2 K hN T2 (Nat.le_trans z2 (by decide)) p3a p3b
      dsimp only at A3 T3
      have m3:=z0ab lt d (s:=r2.2) p3a p3b
      have z3:(medianAdjacent lt d (a+(e-a) / 4 * 3) r2.2).2<=9:=Nat.le_trans (Go.Sort.medianAdjacent_count lt d _ _) (Nat.add_le_add_right z2 3)
      generalize medianAdjacent lt d (a+(e-a) / 4 * 3) r2.2=r3 at e3 T3 m3 z3 ⊢
      obtain⟨⟨x4,g4⟩,e4,rfl,A4,T4⟩:=z01j (c:=c) A3 K T3 (Nat.le_trans z3 (by decide)) m1 m2 m3
      dsimp only at A4 T4
      have lq:ldB (g4.get h.next) 0=some (.int .i64 ((median lt d r1.1 r2.1 r3.1 r3.2).2:Int)):=by rw[T4.at_]; rfl
      generalize median lt d r1.1 r2.1 r3.1 r3.2=m at e4 lq ⊢
      rcases z09p m.2 with ⟨c1,hh⟩ | ⟨c1,c2,hh⟩ | ⟨c1,c2,hh⟩
      · simp only[S.z05,w1,w2,u1',u2',u3',v1,v2,v3,k8,k50,zd,z02,e1,e2,e3,e4,zk,lq,zm,c1,hh]
        exact Ev.some ⟨rfl,A4⟩
      · simp only[S.z05,w1,w2,u1',u2',u3',v1,v2,v3,k8,k50,zd,z02,e1,e2,e3,e4,zk,lq,zm,c1,c2,hh]
        exact Ev.some ⟨rfl,A4⟩
      · simp only[S.z05,w1,w2,u1',u2',u3',v1,v2,v3,k8,k50,zd,z02,e1,e2,e3,e4,zk,lq,zm,c1,c2,hh]
        exact Ev.some ⟨rfl,A4⟩
    · have k50:decide ((50:Int)<=lI)=false:=by rw[hli]; exact decide_eq_false (by exact_mod_cast h50)
      simp only[if_pos h8,if_neg h50,ge_iff_le]
      obtain⟨⟨x1,g1⟩,e1,rfl,A1,T1⟩:=z01j (c:=c) A0 K T0 (by decide) n1 n2 n3
      dsimp only at A1 T1
      have lq:ldB (g1.get h.next) 0=some (.int .i64 ((median lt d (a+(e-a) / 4 * 1) (a+(e-a) / 4 * 2) (a+(e-a) / 4 * 3) 0).2:Int)):=by rw[T1.at_]; rfl
      generalize median lt d (a+(e-a) / 4 * 1) (a+(e-a) / 4 * 2) (a+(e-a) / 4 * 3) 0=m at e1 lq ⊢
      rcases z09p m.2 with ⟨c1,hh⟩ | ⟨c1,c2,hh⟩ | ⟨c1,c2,hh⟩
      · simp only[S.z05,w1,w2,u1',u2',u3',v1,v2,v3,k8,k50,zd,z02,e1,zk,lq,zm,c1,hh]
        exact Ev.some ⟨rfl,A1⟩
      · simp only[S.z05,w1,w2,u1',u2',u3',v1,v2,v3,k8,k50,zd,z02,e1,zk,lq,zm,c1,c2,hh]
        exact Ev.some ⟨rfl,A1⟩
      · simp only[S.z05,w1,w2,u1',u2',u3',v1,v2,v3,k8,k50,zd,z02,e1,zk,lq,zm,c1,c2,hh]
        exact Ev.some ⟨rfl,A1⟩
  · have k8:decide ((8:Int)<=lI)=false:=by rw[hli]; exact decide_eq_false (by exact_mod_cast h8)
    simp only[if_neg h8,ge_iff_le]
    have lq:ldB ((h.new (.cells [.int .i64 0] .rw)).get h.next) 0=some (.int .i64 0):=by rw[T0.at_]; rfl
    have c1:decide ((0:Int)=0)=true:=rfl
    simp only[S.z05,w1,w2,u2',v2,k8,zd,zk,lq,zm]
    exact Ev.some ⟨rfl,A0⟩
end
open Go.Sort (swp PermIn SortedIn Below SWO permIn_trans permIn_refl)
section
variable {h0 h:H}{b N f:Nat}{cs:List V}{lt:Int->Int->Bool}{d:Array Int}{c:Cap}
def PdqPost (h0:H) (b N:Nat) (c:Cap) (f:Nat) (cs:List V) (lt:Int->Int->Bool) (a e:Nat) (d:Array Int) (z:AX × List V × H):Prop :=
 (z.1=.ret/\z.2.1=S.z30/\∃R,PermIn a e d R/\SortedIn lt a e R/\Sw h0 b N z.2.2 R) \/
 (∃(a' e':Nat) (L:Int) (wb wp:Bool) (d':Array Int),z.1=.normal/\z.2.1=S.z1x (.sl b 0 N c) (.int .i64 (a':Int)) (.int .i64 (e':Int)) (.int .i64 L) (.fn f cs) (.bool wb) (.bool wp) /\
  (a<=a'/\a'<=e'/\e'<=e)/\e'-a'<e-a/\Sw h0 b N z.2.2 d'/\Below lt a' e' d'/\∀R,PermIn a' e' d' R->SortedIn lt a' e' R->PermIn a e d R/\SortedIn lt a e R)
theorem PdqPost.perm {a e:Nat}{d d1:Array Int} (hp:PermIn a e d d1) {z:AX × List V × H} (q:PdqPost h0 b N c f cs lt a e d1 z):PdqPost h0 b N c f cs lt a e d z:=by
 rcases q with ⟨q1,q2,R,q3,q4,q5⟩ | ⟨a',e',L,wb,wp,d',q1,q2,q3,q4,q5,q6,q7⟩
 ·exact .inl ⟨q1,q2,R,permIn_trans _ _ _ _ _ hp q3,q4,q5⟩
 ·exact .inr ⟨a',e',L,wb,wp,d',q1,q2,q3,q4,q5,q6,fun R r1 r2=>⟨permIn_trans _ _ _ _ _ hp (q7 R r1 r2).1,(q7 R r1 r2).2⟩⟩
def z09r (h0:H) (b N:Nat) (c:Cap) (f:Nat) (cs:List V) (lt:Int->Int->Bool) (n:Nat):Prop :=
 ∀(a e:Nat) (L:Int) (d:Array Int) (h:H),e-a<n->a<=e->e<=N->Sw h0 b N h d->Below lt a e d ->
  Ev (C 405 [.sl b 0 N c,.int .i64 (a:Int),.int .i64 (e:Int),.int .i64 L,.fn f cs] h) fun z=>∃R,z.1=.tup []/\PermIn a e d R/\SortedIn lt a e R/\Sw h0 b N z.2 R
theorem z0d3 (A:Sw h0 b N h d) (K:Cmp h0 b N f cs lt) (hlt:SWO lt) (hN:N<=64) {a e pv n:Nat}{L x12:Int}{y10 y11:V} (hn:e-a<=n) (ih:z09r h0 b N c f cs lt n) (hp1:a<=pv) (hp2:pv<e) (he:e<=N) (hB:Below lt a e d) :
  Ev (S.z78 W (.sl b 0 N c) (a:Int) (e:Int) L (.fn f cs) y10 y11 x12 (pv:Int) h) (PdqPost h0 b N c f cs lt a e d):=by
 have n9:N<=9000:=Nat.le_trans hN (by decide)
 have hae:a<e:=Nat.lt_of_le_of_lt hp1 hp2
 obtain⟨⟨v,g⟩,e1,rfl,A1⟩:=z0ao (c:=c) A K (Nat.le_trans hN (by decide)) hae he (Nat.lt_of_lt_of_le hp2 he)
 dsimp only at A1
 obtain⟨q1,q2,q3,q4,q5,q6,q7⟩:=Go.Sort.round_part (mid:=(Go.Sort.partition lt d a e pv).1) (ap:=(Go.Sort.partition lt d a e pv).2.1) (d4:=(Go.Sort.partition lt d a e pv).2.2) hlt (Go.Sort.partition_holds lt) hp1 hp2 (by rw[A.sz]; exact he) hB rfl
 generalize Go.Sort.partition lt d a e pv=P at *
 obtain⟨mid,ap,d4⟩:=P
 dsimp only at *
 have hme:mid<=9000:=Nat.le_trans (Nat.le_of_lt q2) (Nat.le_trans he n9)
 have w1:=z23 (i:=mid) (j:=a) q1 hme
 have w2:=z23 (i:=e) (j:=mid) (Nat.le_of_lt q2) (Nat.le_trans he n9)
 have w3:=z20 (i:=mid) hme
 have z1:mid-a<e-a:=by clear w1 w2 w3; omega
 have z2:e-(mid+1)<e-a:=by clear w1 w2 w3; omega
 by_cases hc:mid-a<e-mid
 ·obtain⟨⟨v2,g2⟩,e2,R1,rfl,r1,r2,A2⟩:=ih a mid L d4 g (Nat.lt_of_lt_of_le z1 hn) q1 (Nat.le_trans (Nat.le_of_lt q2) he) A1 q4
  dsimp only at A2
  obtain⟨u1,u2⟩:=q6 R1 r1 r2
  obtain⟨mI,hmI⟩:∃x:Int,x=(mid:Int):=⟨_,rfl⟩
  obtain⟨aI,haI⟩:∃x:Int,x=(a:Int):=⟨_,rfl⟩
  obtain⟨eI,heI⟩:∃x:Int,x=(e:Int):=⟨_,rfl⟩
  rw[<-hmI] at e1 e2 w1 w2 w3; rw[<-haI] at e1 e2 w1 ⊢; rw[<-heI] at e1 w2 ⊢
  simp only[S.z78,z02,e1,zd,List.getElem?_cons_zero,List.getElem?_cons_succ,zm,w1,w2,z2b hc,e2,w3]
  subst hmI haI heI
  exact Ev.some (.inr ⟨mid+1,e,L,_,ap,R1,rfl,rfl,⟨Nat.le_succ_of_le q1,q2,Nat.le_refl _⟩,z2,A2,u1,u2⟩)
 ·obtain⟨⟨v2,g2⟩,e2,R1,rfl,r1,r2,A2⟩:=ih (mid+1) e L d4 g (Nat.lt_of_lt_of_le z2 hn) q2 he A1 q5
  dsimp only at A2
  obtain⟨u1,u2⟩:=q7 R1 r1 r2
  obtain⟨mI,hmI⟩:∃x:Int,x=(mid:Int):=⟨_,rfl⟩
  obtain⟨aI,haI⟩:∃x:Int,x=(a:Int):=⟨_,rfl⟩
  obtain⟨eI,heI⟩:∃x:Int,x=(e:Int):=⟨_,rfl⟩
  rw[<-hmI] at e1 w1 w2 w3; rw[<-haI] at e1 w1 ⊢; rw[<-heI] at e1 e2 w2 ⊢
  simp only[S.z78,z02,e1,zd,List.getElem?_cons_zero,List.getElem?_cons_succ,zm,w1,w2,z37 hc,w3,e2]
  subst hmI haI heI
  exact Ev.some (.inr ⟨a,mid,L,_,ap,R1,rfl,rfl,⟨Nat.le_refl _,q1,Nat.le_of_lt q2⟩,z1,A2,u1,u2⟩)
theorem z0b9 (A:Sw h0 b N h d) (K:Cmp h0 b N f cs lt) (hlt:SWO lt) (hN:N<=64) {a e pv n:Nat}{L x12:Int}{wb wp:Bool} (hn:e-a<=n) (ih:z09r h0 b N c f cs lt n) (hp1:a<=pv) (hp2:pv<e) (he:e<=N) (hB:Below lt a e d) :
  Ev (S.zc6 W (.sl b 0 N c) (a:Int) (e:Int) L (.fn f cs) wb wp x12 (pv:Int) h) (PdqPost h0 b N c f cs lt a e d):=by
 have n9:N<=9000:=Nat.le_trans hN (by decide)
 have hae:a<e:=Nat.lt_of_le_of_lt hp1 hp2
 have hpN:=Nat.lt_of_lt_of_le hp2 he
 simp only[S.zc6]
 rw[S.zps]
 cases a with
 | zero =>
  have k0:decide ((0:Int)<((0:Nat):Int))=false:=rfl
  simp only[S.z76,k0,zd]
  show Ev (S.z3f W .normal _ _) _
  rw[S.zfu]
  exact z0d3 A K hlt hN hn ih hp1 hp2 he hB
 | succ m =>
  have hm:m<N:=Nat.lt_of_succ_lt (Nat.lt_of_lt_of_le hae he)
  have k0:decide ((0:Int)<((m+1:Nat):Int))=true:=decide_eq_true (by omega)
  have w1:=z3n (i:=m) (Nat.le_trans (Nat.le_trans (Nat.le_of_lt hae) he) n9)
  have i1:=zs (b:=b) (c:=c) hm
  have i2:=zs (b:=b) (c:=c) hpN
  have l1:=A.ld hm
  have l2:=A.ld hpN
  obtain⟨x,g1,ec,hx,A1,_⟩:=A.cmp K hm hpN
  cases hl:lt d[m]! d[pv]! with
  | true =>
   simp only[S.z76,k0,w1,i1,i2,zd,zk,l1,l2,ec,zm,hx,hl,Bool.not_true]
   show Ev (S.z3f W .normal _ _) _
   rw[S.zfu]
   exact z0d3 A1 K hlt hN hn ih hp1 hp2 he hB
  | false =>
   obtain⟨⟨v,g⟩,e1,rfl,A2⟩:=z05g (c:=c) A1 K (Nat.le_trans hN (by decide)) hae he hpN
   dsimp only at A2
   obtain⟨q1,q2,q3,q4,q5⟩:=Go.Sort.round_eq (mid:=(Go.Sort.partitionEqual lt d (m+1) e pv).1) (d4:=(Go.Sort.partitionEqual lt d (m+1) e pv).2) hlt (Go.Sort.partitionEqual_holds lt) (Nat.succ_pos m) hp1 hp2 (by rw[A.sz]; exact he) hB hl rfl
   generalize Go.Sort.partitionEqual lt d (m+1) e pv=P at *
   obtain⟨mid,d4⟩:=P
   dsimp only at *
   simp only[S.z76,k0,w1,i1,i2,zd,zk,l1,l2,ec,zm,hx,hl,Bool.not_false,z02,e1]
   show Ev (S.z3f W (.exit 1) _ _) _
   rw[S.zn9]
   simp only[S.zh2]
   exact Ev.some (.inr ⟨mid,e,L,wb,wp,d4,rfl,rfl,⟨Nat.le_of_lt q1,q2,Nat.le_refl _⟩,Nat.sub_lt_sub_left hae q1,A2,q4,q5⟩)
theorem z0bs (A:Sw h0 b N h d) (K:Cmp h0 b N f cs lt) (hlt:SWO lt) (hN:N<=64) {a e pv n:Nat}{L x12 x14:Int}{wb wp:Bool} (hn:e-a<=n) (ih:z09r h0 b N c f cs lt n) (hp1:a<=pv) (hp2:pv<e) (he:e<=N) (hB:Below lt a e d) :
  Ev (S.zbp W (.sl b 0 N c) (a:Int) (e:Int) L (.fn f cs) wb wp x12 (pv:Int) x14 h) (PdqPost h0 b N c f cs lt a e d):=by
 have hae:a<e:=Nat.lt_of_le_of_lt hp1 hp2
 have hb:e<=d.size:=by rw[A.sz]; exact he
 simp only[S.zbp]
 rw[S.zqb]
 simp only[S.zif]
 rw[S.zqd]
 have key:∀t:Bool,Ev ((S.zdj W .normal (S.z4y (.sl b 0 N c) (.int .i64 (a:Int)) (.int .i64 (e:Int)) (.int .i64 L) (.fn f cs) (.bool wb) (.bool wp) (.int .i64 x12) (.int .i64 (pv:Int)) (.bool t)) h).bind fun p0=>S.z29 W p0.1 p0.2.1 p0.2.2) (PdqPost h0 b N c f cs lt a e d):=by
  intro t
  rw[S.zp0]
  cases t with
  | false =>
   simp only[S.z7j,zd]
   show Ev (S.z29 W .normal _ _) _
   rw[S.zgn]
   exact z0b9 A K hlt hN hn ih hp1 hp2 he hB
  | true =>
   obtain⟨⟨v,g⟩,e1,rfl,A1⟩:=z02m (c:=c) A K (Nat.le_trans hN (by decide)) hae he
   dsimp only at A1
   obtain⟨q1,q2⟩:=Go.Sort.partialInsertionSort_holds hlt d a e hae hb hB
   generalize Go.Sort.partialInsertionSort lt d a e=P at *
   obtain⟨d1,t1⟩:=P
   dsimp only at *
   cases t1 with
   | false =>
    simp only[S.z7j,z02,e1,zd,z0x]
    show Ev (S.z29 W .normal _ _) _
    rw[S.zgn]
    exact(z0b9 A1 K hlt hN hn ih hp1 hp2 he (hB.perm hb q1)).mono fun _ z=>z.perm q1
   | true =>
    simp only[S.z7j,z02,e1,zd,z0x]
    show Ev (S.z29 W .ret _ _) _
    rw[S.zox]
    simp only[S.zij]
    exact Ev.some (.inl ⟨rfl,rfl,d1,q1,q2 rfl,A1⟩)
 cases wb with
 | false =>
  simp only[S.z7h,zd]
  exact key _
 | true =>
  cases wp with
  | false =>
   simp only[S.z7h,zd]
   exact key _
  | true =>
   simp only[S.z7h,zd]
   exact key _
theorem z0jx (A:Sw h0 b N h d) (K:Cmp h0 b N f cs lt) (hlt:SWO lt) (hN:N<=64) {a e n:Nat}{L:Int}{wb wp:Bool} (hn:e-a<=n) (ih:z09r h0 b N c f cs lt n) (hae:a<=e) (he:e<=N) (hB:Below lt a e d) :
  Ev (S.z4x W (.sl b 0 N c) (a:Int) (e:Int) L (.fn f cs) wb wp h) (PdqPost h0 b N c f cs lt a e d):=by
 have n9:N<=9000:=Nat.le_trans hN (by decide)
 have hN':N<=1000:=Nat.le_trans hN (by decide)
 have hb:e<=d.size:=by rw[A.sz]; exact he
 have w1:=z23 (i:=e) (j:=a) hae (Nat.le_trans he n9)
 by_cases h12:e-a<=12
 ·obtain⟨⟨v,g⟩,e1,rfl,A1⟩:=zvj (c:=c) A K hN' he (Nat.le_trans hae he)
  dsimp only at A1
  obtain⟨q1,q2⟩:=Go.Sort.insertionSort_holds hlt d a e hae hb
  have k0:decide (((e-a:Nat):Int)<=12)=true:=decide_eq_true (by clear w1 e1; omega)
  obtain⟨aI,haI⟩:∃x:Int,x=(a:Int):=⟨_,rfl⟩
  obtain⟨eI,heI⟩:∃x:Int,x=(e:Int):=⟨_,rfl⟩
  rw[<-haI] at e1 w1 ⊢; rw[<-heI] at e1 w1 ⊢
  simp only[S.z4x,w1,k0,z02,e1,zd]
  exact Ev.some (.inl ⟨rfl,rfl,_,q1,q2,A1⟩)
 have k0:decide (((e-a:Nat):Int)<=12)=false:=decide_eq_false (by clear w1; omega)
 have hlt':a<e:=by clear w1 k0; omega
 by_cases hL:L=0
 ·obtain⟨⟨v,g⟩,e1,rfl,A1⟩:=z0ie (c:=c) A K hN' hae he
  dsimp only at A1
  obtain⟨q1,q2⟩:=Go.Sort.heapSort_holds hlt d a e hae hb
  have kL:decide (L=0)=true:=decide_eq_true hL
  obtain⟨aI,haI⟩:∃x:Int,x=(a:Int):=⟨_,rfl⟩
  obtain⟨eI,heI⟩:∃x:Int,x=(e:Int):=⟨_,rfl⟩
  rw[<-haI] at e1 w1 ⊢; rw[<-heI] at e1 w1 ⊢
  simp only[S.z4x,w1,k0,kL,z02,e1,zd]
  exact Ev.some (.inl ⟨rfl,rfl,_,q1,q2,A1⟩)
 have kL:decide (L=0)=false:=decide_eq_false hL
 have rev:∀(d1:Array Int) (L x12:Int) (h1:H) (pv:Nat) (x14:Int),PermIn a e d d1->Sw h0 b N h1 d1->a<=pv->pv<e ->
   Ev ((S.zc0 W (S.zc4 (.sl b 0 N c) (.int .i64 (a:Int)) (.int .i64 (e:Int)) (.int .i64 L) (.fn f cs) (.bool wb) (.bool wp) (.int .i64 x12) (.int .i64 (pv:Int)) (.int .i64 x14)) h1).bind fun p5=>S.z62 W p5.1 p5.2.1 p5.2.2) (PdqPost h0 b N c f cs lt a e d):=by
  intro d1 L x12 h1 pv x14 hp A hp1 hp2
  have B1:=hB.perm hb hp
  have hb1:e<=d1.size:=by rw[A.sz]; exact he
  rw[S.zq8]
  by_cases h2:x14=2
  ·obtain⟨⟨v,g⟩,e1,rfl,A1⟩:=z0ee (c:=c) A hN' hlt' he (.fn f cs)
   dsimp only at A1
   have q1:=Go.Sort.reverseRange_holds d1 a e hae hb1
   have k2:decide (x14=2)=true:=decide_eq_true h2
   obtain⟨m,hm⟩:∃m,e=m+1:=⟨e-1,by clear w1 k0; omega⟩
   have w2:wr .i64 ((e:Int)-1)=((e-1:Nat):Int):=by rw[hm]; exact z3n (i:=m) (hm ▸ Nat.le_trans he n9)
   have w3:=z23 (i:=pv) (j:=a) hp1 (Nat.le_trans (Nat.le_of_lt hp2) (Nat.le_trans he n9))
   have z1:pv-a<=e-1:=by clear w1 k0 w2 w3; omega
   have w4:=z23 (i:=e-1) (j:=pv-a) z1 (by clear w1 k0 w2 w3; omega)
   simp only[S.zbm,k2,z02,e1,zd,w2,w3,w4]
   show Ev (S.z62 W .normal _ _) _
   rw[S.zgm]
   exact(z0bs A1 K hlt hN hn ih (by clear w1 k0 w2 w3 w4; omega) (by clear w1 k0 w2 w3 w4; omega) he (B1.perm hb1 q1)).mono fun _ z=>(z.perm q1).perm hp
  ·have k2:decide (x14=2)=false:=decide_eq_false h2
   simp only[S.zbm,k2,zd]
   show Ev (S.z62 W .normal _ _) _
   rw[S.zgm]
   exact(z0bs A K hlt hN hn ih hp1 hp2 he B1).mono fun _ z=>z.perm hp
 have cho:∀(d1:Array Int) (L x12:Int) (h1:H),PermIn a e d d1->Sw h0 b N h1 d1 ->
   Ev (S.zbr W (.sl b 0 N c) (a:Int) (e:Int) L (.fn f cs) wb wp x12 h1) (PdqPost h0 b N c f cs lt a e d):=by
  intro d1 L x12 h1 hp A
  obtain⟨⟨v,g⟩,e1,rfl,A1⟩:=choose_spec (c:=c) A K hN' hlt' he
  dsimp only at A1
  obtain⟨q1,q2⟩:=Go.Sort.choosePivot_holds lt d1 a e hlt'
  simp only[S.zbr,z02,e1,zd,List.getElem?_cons_zero,List.getElem?_cons_succ]
  exact rev _ _ _ _ _ _ hp A1 q1 q2
 have fst:Ev ((S.zbn W (S.zbo (.sl b 0 N c) (.int .i64 (a:Int)) (.int .i64 (e:Int)) (.int .i64 L) (.fn f cs) (.bool wb) (.bool wp) (.int .i64 ((e-a:Nat):Int))) h).bind fun p0=>S.z63 W p0.1 p0.2.1 p0.2.2) (PdqPost h0 b N c f cs lt a e d):=by
  rw[S.zqh]
  cases wb with
  | true =>
   simp only[S.zbt,Bool.not_true,zd]
   show Ev (S.z63 W .normal _ _) _
   rw[S.zgo]
   exact cho _ _ _ _ (permIn_refl _ _ _) A
  | false =>
   obtain⟨⟨v,g⟩,e1,d1,rfl,q1,A1⟩:=z0h1 (c:=c) A hN hae he (.fn f cs)
   dsimp only at A1
   simp only[S.zbt,Bool.not_false,z02,e1,zd]
   show Ev (S.z63 W .normal _ _) _
   rw[S.zgo]
   exact cho _ _ _ _ q1 A1
 clear rev cho
 obtain⟨aI,haI⟩:∃x:Int,x=(a:Int):=⟨_,rfl⟩
 obtain⟨eI,heI⟩:∃x:Int,x=(e:Int):=⟨_,rfl⟩
 rw[<-haI] at fst w1 ⊢; rw[<-heI] at fst w1 ⊢
 simp only[S.z4x,w1,k0,kL]
 exact fst
theorem z0gg (K:Cmp h0 b N f cs lt) (hlt:SWO lt) (hN:N<=64):∀n,z09r h0 b N c f cs lt n
 | 0=>fun a e L d h hn=>absurd hn (Nat.not_lt_zero _)
 | n+1=>by
  intro a e L d h hn hae he A hB
  have ih:=z0gg K hlt hN n
  refine z0e (af:=F.zt) (by kernel_rfl) rfl ?_
  rw[S.zu2]
  simp only[S.zt]
  refine z0f (α:=Nat × Nat × Int × Bool × Bool × Array Int) (fun q=>S.z1x (.sl b 0 N c) (.int .i64 (q.1:Int)) (.int .i64 (q.2.1:Int)) (.int .i64 q.2.2.1) (.fn f cs) (.bool q.2.2.2.1) (.bool q.2.2.2.2.1))
   (fun q h=>q.2.1-q.1<=n/\(q.1<=q.2.1/\q.2.1<=e)/\Sw h0 b N h q.2.2.2.2.2/\Below lt q.1 q.2.1 q.2.2.2.2.2/\∀R,PermIn q.1 q.2.1 q.2.2.2.2.2 R->SortedIn lt q.1 q.2.1 R->PermIn a e d R/\SortedIn lt a e R) (fun q _=>q.2.1-q.1)
   (fun z=>z.1=.ret/\z.2.1=S.z30/\∃R,PermIn a e d R/\SortedIn lt a e R/\Sw h0 b N z.2.2 R) (a,e,L,true,true,d) rfl ⟨Nat.le_of_lt_succ hn,⟨hae,Nat.le_refl _⟩,A,hB,fun R r1 r2=>⟨r1,r2⟩⟩ ?_ ?_
  rotate_left
  ·rintro⟨_,_,g⟩ ⟨rfl,rfl,R,r1,r2,A⟩
   show Ev (S.zdg W .ret _ _) _
   rw[S.zp7]
   exact Ev.some ⟨R,rfl,r1,r2,A⟩
  clear A hB hn
  rintro⟨i,j,L,wb,wp,d1⟩ g ⟨hn,⟨hij,hj⟩,A,hB,hf⟩
  dsimp only at hn hij hj A hB hf
  rw[S.zqe]
  refine(z0jx A K hlt hN hn ih hij (Nat.le_trans hj he) hB).mono ?_
  rintro⟨x,y,g1⟩ (⟨rfl,rfl,R,r1,r2,A1⟩ | ⟨a',e',L',wb',wp',d',rfl,rfl,⟨m1,m2,m3⟩,m4,A1,B1,hf1⟩)
  ·exact .inr ⟨by simp,rfl,rfl,R,(hf R r1 r2).1,(hf R r1 r2).2,A1⟩
  ·exact .inl ⟨(a',e',L',wb',wp',d'),rfl,rfl,⟨Nat.le_trans (Nat.le_of_lt m4) hn,⟨m2,Nat.le_trans m3 hj⟩,A1,B1,fun R r1 r2=>hf R (hf1 R r1 r2).1 (hf1 R r1 r2).2⟩,m4⟩
end
def AtO (l:List Evt) (o:List Int) (a:Nat) (y:Evt):Prop:=∃i:Nat,o[a]?=some (i:Int)/\l[i]?=some y
end Wm
end
noncomputable section
namespace Wm
def KV (kd:Go.IntKind) (l:List (Int × V)):List (V × V):=l.map fun p=>(.int kd p.1,p.2)
def zo7:List (Int × V)->Int->Option V
 | [],_=>none
 | (a,v) :: l,k=>if k=a then some v else zo7 l k
def kset:List (Int × V)->Int->V->List (Int × V)
 | [],k,x=>[(k,x)]
 | (a,v) :: l,k,x=>if k=a then (k,x) :: l else (a,v) :: kset l k x
theorem z09s (kd:Go.IntKind) (k:Int):∀l:List (Int × V),findKey .int (.int kd k) (KV kd l)=some (zo7 l k)
 | []=>rfl
 | (a,v) :: l=>by
  simp only[KV,List.map_cons,findKey,z79,decide_true,zo7]
  by_cases h:k=a
  ·simp only[h,decide_true,if_true]
  ·simp only[h,decide_false,if_false]
   exact z09s kd k l
theorem z0bj (kd:Go.IntKind) (k:Int) (x:V):∀l:List (Int × V),zpu .int (.int kd k) x (KV kd l)=some (KV kd (kset l k x))
 | []=>rfl
 | (a,v) :: l=>by
  have ih:=z0bj kd k x l
  unfold KV at ih
  simp only[KV,List.map_cons,zpu,z79,decide_true,kset]
  by_cases h:k=a
  ·simp only[h,decide_true,if_true,List.map_cons]
  ·simp only[h,decide_false,if_false,ih,List.map_cons]
theorem z09h (k:Int) (x:V) (j:Int):∀l:List (Int × V),zo7 (kset l k x) j=if j=k then some x else zo7 l j
 | []=>by simp only[kset,zo7]
 | (a,v) :: l=>by
  have ih:=z09h k x j l
  by_cases h:k=a
  ·subst h
   simp only[kset,if_true,zo7]
   by_cases hj:j=k
   ·simp only[hj,if_true]
   ·simp only[hj,if_false]
  ·simp only[kset,h,if_false,zo7]
   by_cases hj:j=a
   ·subst hj
    have hk:¬j=k:=fun e=>h e.symm
    simp only[if_true,hk,if_false]
   ·simp only[hj,if_false,ih]
theorem z0m8 {h:H}{mb:Nat}{kd:Go.IntKind}{l:List (Int × V)} (hm:h.get mb=some (.map (KV kd l))) (z:V) (k:Int) :
  h.look .int z true (.map mb) (.int kd k)=some (match zo7 l k with | some v=>.tup [v,.bool true] | none=>.tup [z,.bool false]):=by
 simp only[H.look,zsr,H.entries,hm,z09s]
 cases zo7 l k <;> rfl
theorem z0az {h:H}{mb:Nat}{kd:Go.IntKind}{l:List (Int × V)} (hm:h.get mb=some (.map (KV kd l))) (k:Int) (x:V) :
  h.mapSet .int (.map mb) (.int kd k) x=some (h.put mb (some (.map (KV kd (kset l k x))))):=by
 simp only[H.mapSet,zsr,hm,z0bj]
end Wm
end
noncomputable section
namespace Wm
attribute [local congr] zi
attribute [local irreducible] wr
open Go.Sort (swp PermIn SortedIn Below SWO)
def cmp3 (a b:Int):Int:=if a<b then -1 else if b<a then 1 else 0
theorem z0kl (a:Int) (h:H):C 407 [.int .i64 a] h=some (.bool false,h):=by
 refine za7 (af:=F.zbe) (by kernel_rfl) rfl (by rfl) (by rfl) h ?_
 rw[S.z07m]
 simp only[S.zbe,decide_true,Bool.not_true]
 exact Ev.some rfl
theorem z0ex (a b:Int) (h:H):C 334 [.int .i64 a,.int .i64 b] h=some (.int .i64 (cmp3 a b),h):=by
 refine za7 (af:=F.z8t) (by kernel_rfl) rfl (by rfl) (by rfl) h ?_
 rw[S.z04w]
 unfold cmp3
 simp only[S.z8t,z02,z0kl,zd,z0x]
 by_cases h1:a<b
 ·simp only[h1,decide_true,if_true]
  exact Ev.some rfl
 ·by_cases h2:b<a
  ·simp only[h1,h2,decide_true,decide_false,if_true,if_false]
   exact Ev.some rfl
  ·simp only[h1,h2,decide_false,if_false]
   exact Ev.some rfl
theorem z00o (a b:Int):decide (cmp3 a b<0)=decide (a<b):=by
 unfold cmp3
 by_cases h1:a<b
 ·simp[h1]
 ·by_cases h2:b<a
  ·simp[h1,h2]
  ·simp[h1,h2]
section
variable {h0 h:H}{b N f:Nat}{cs:List V}{lt:Int->Int->Bool}{d:Array Int}{c:Cap}
theorem z0c3 (A:Sw h0 b N h d) (K:Cmp h0 b N f cs lt) (hlt:SWO lt) (hN:N<=64) :
  Ev (C 332 [.sl b 0 N c,.fn f cs] h) fun z=>∃R,z.1=.tup []/\PermIn 0 N d R/\SortedIn lt 0 N R/\Sw h0 b N z.2 R:=by
 refine z0e (af:=F.z28) (by kernel_rfl) rfl ?_
 rw[S.zu5]
 have w1:wr .u64 ((N:Nat):Int)=(N:Int):=z0g0 hN
 have e1:=z0o2 (n:=N) (by omega) h
 obtain⟨⟨v,g⟩,e2,R,rfl,r1,r2,A2⟩:=z0gg (c:=c) K hlt hN (N+1) 0 N (Go.Sort.bitsLen N:Int) d h (by omega) (Nat.zero_le _) (Nat.le_refl _) A (.inl rfl)
 have e2:C 405 [.sl b 0 N c,.int .i64 0,.int .i64 (N:Int),.int .i64 (Go.Sort.bitsLen N:Int),.fn f cs] h=some (.tup [],g):=e2
 simp only[S.z28,z5p,zd,w1,z02,e1,e2]
 exact Ev.some ⟨R,rfl,r1,r2,A2⟩
end
def idA (n:Nat):Array Int:=((List.range n).map (fun i:Nat=>(i:Int))).toArray
theorem z02w (n:Nat):(idA n).size=n:=by simp[idA]
theorem z02o {n i:Nat} (hi:i<n):(idA n)[i]! = (i:Int):=by
 rw[getElem!_pos (idA n) i (by rw[z02w]; exact hi)]
 simp[idA]
structure AllNums (n:Nat) (o:List Int):Prop where
 len:o.length=n
 perm:o.Perm ((List.range n).map (fun i:Nat=>(i:Int)))
theorem AllNums.at {n:Nat}{o:List Int} (P:AllNums n o) {k:Nat} (hk:k<n):∃i:Nat,i<n/\o[k]?=some (i:Int):=by
 have hm:o[k]'(by rw[P.len]; exact hk)∈o:=List.getElem_mem _
 have:=P.perm.mem_iff.mp hm
 rw[List.mem_map] at this
 obtain⟨i,hi,he⟩:=this
 exact⟨i,List.mem_range.mp hi,by rw[List.getElem?_eq_getElem (by rw[P.len]; exact hk),he]⟩
theorem AllNums.has {n:Nat}{o:List Int} (P:AllNums n o) {i:Nat} (hi:i<n):∃k,k<n/\o[k]?=some (i:Int):=by
 have hm:(i:Int)∈o:=P.perm.mem_iff.mpr (List.mem_map.mpr ⟨i,List.mem_range.mpr hi,rfl⟩)
 obtain⟨k,hk,he⟩:=List.getElem_of_mem hm
 exact⟨k,P.len ▸ hk,by rw[List.getElem?_eq_getElem hk,he]⟩
theorem AllNums.inj {n:Nat}{o:List Int} (P:AllNums n o) {a b:Nat}{v:Int} (ha:o[a]?=some v) (hb:o[b]?=some v):a=b:=by
 have nd:o.Nodup:=by
  rw[P.perm.nodup_iff]
  exact List.pairwise_map.mpr (List.nodup_range.imp fun h e=>h (Int.ofNat.inj e))
 have h1:=z0a ha
 have h2:=z0a hb
 rw[List.getElem?_eq_getElem h1] at ha
 rw[List.getElem?_eq_getElem h2] at hb
 have nd:=List.pairwise_iff_getElem.mp nd
 have he:=(Option.some.inj ha).trans (Option.some.inj hb).symm
 rcases Nat.lt_trichotomy a b with q | q | q
 ·exact absurd he (nd a b h1 h2 q)
 ·exact q
 ·exact absurd he.symm (nd b a h2 h1 q)
theorem AllNums.of {n:Nat}{d:Array Int} (hd:d.size=n) (hp:PermIn 0 n (idA n) d):AllNums n d.toList:=by
 refine⟨by rw[Array.length_toList]; exact hd,?_⟩
 have h:=hp.2.2
 have e1:(d.extract 0 n)=d:=by rw[<-hd]; exact Array.extract_size
 have e2:(idA n).extract 0 n=idA n:=by
  have:=z02w n
  conv=>lhs; rw[<-this]
  rw[this]
  exact(congrArg (fun k=>(idA n).extract 0 k) this.symm).trans Array.extract_size
 rw[e1,e2] at h
 simpa [idA] using h
theorem ztt {d:Array Int}{k:Nat} (hk:k<d.size):d.toList[k]?=some d[k]! := by
 rw[Array.getElem?_toList,Array.getElem?_eq_getElem hk,getElem!_pos d k hk]
structure Evt.bd (x:Evt) (clients:Int):Prop where
 c0:0<=x.client
 c1:x.client<clients
 p0:x.begun<=x.point
 p1:x.point<=x.ended
def zlu (l:List Evt) (clients:Int):Prop :=
 (∀(i:Nat) (x:Evt),l[i]?=some x->x.bd clients) /\
 ∀(i k:Nat) (x y:Evt),l[i]?=some x->l[k]?=some y->k≠i->x.client=y.client->¬(x.op=y.op\/x.op<y.op/\¬x.ended<y.begun)
def RightTo (l:List Evt) (clients:Int) (o:List Int) (k:Nat):Prop :=
 (∀a y,a<k->AtO l o a y->y.bd clients) /\
 ∀a b x y,a<b->b<k->AtO l o a x->AtO l o b y->x.client=y.client->x.op<y.op/\x.ended<y.begun
def z0a7 (l:List Evt) (o:List Int):Prop:=∀a b x y,a<b->AtO l o a x->AtO l o b y->¬y.op<x.op
theorem AtO.same {l:List Evt}{o:List Int}{a:Nat}{x y:Evt} (h1:AtO l o a x) (h2:AtO l o a y):x=y:=by
 obtain⟨i,p1,p2⟩:=h1
 obtain⟨j,q1,q2⟩:=h2
 rw[p1] at q1
 have:=Int.ofNat.inj (Option.some.inj q1)
 subst this
 rw[p2] at q2; exact Option.some.inj q2
theorem z0fd {l:List Evt}{clients:Int}{o:List Int} (P:AllNums l.length o) (hs:z0a7 l o):RightTo l clients o l.length<->zlu l clients:=by
 constructor
 ·rintro⟨h1,h2⟩
  refine⟨fun i x hx => ?_,fun i k x y hx hy hki hc hbad => ?_⟩
  ·obtain⟨a,ha,he⟩:=P.has (z0a hx)
   exact h1 a x ha ⟨i,he,hx⟩
  ·obtain⟨a,ha,hea⟩:=P.has (z0a hx)
   obtain⟨b,hb,heb⟩:=P.has (z0a hy)
   rcases Nat.lt_trichotomy a b with q | q | q
   ·obtain⟨z1,z2⟩:=h2 a b x y q hb ⟨i,hea,hx⟩ ⟨k,heb,hy⟩ hc
    rcases hbad with z | ⟨_,z⟩
    ·omega
    ·exact z z2
   ·subst q
    rw[hea] at heb
    exact hki (Int.ofNat.inj (Option.some.inj heb)).symm
   ·obtain⟨z1,z2⟩:=h2 b a y x q ha ⟨k,heb,hy⟩ ⟨i,hea,hx⟩ hc.symm
    rcases hbad with z | ⟨z,_⟩ <;> omega
 ·rintro⟨h1,h2⟩
  refine⟨fun a y ha ⟨i,_,hi⟩=>h1 i y hi,fun a b x y hab hb hx hy hc => ?_⟩
  have hss:=hs a b x y hab hx hy
  obtain⟨i,p1,p2⟩:=hx
  obtain⟨k,q1,q2⟩:=hy
  have hne:k≠i:=fun e=>by
   subst e
   exact absurd (P.inj p1 q1) (by omega)
  have:=h2 i k x y p2 q2 hne hc
  have hop:¬x.op=y.op:=fun z=>this (.inl z)
  have hlt:x.op<y.op:=by omega
  refine⟨hlt,?_⟩
  by_cases q:x.ended<y.begun
  ·exact q
  ·exact absurd (.inr ⟨hlt,q⟩) this
def LastM (l:List Evt) (o:List Int) (k:Nat) (m:List (Int × V)):Prop :=
 ∀c:Int,match zo7 m c with
  | none=>∀a y,a<k->AtO l o a y->y.client≠c
  | some v=>∃a y,a<k/\AtO l o a y/\y.client=c/\v=.agg y.cs/\∀a' y',a'<k->AtO l o a' y'->y'.client=c->a'<=a
theorem LastM.zero (l:List Evt) (o:List Int):LastM l o 0 []:=fun _ _ _ ha=>absurd ha (Nat.not_lt_zero _)
theorem LastM.step {l:List Evt}{o:List Int}{k:Nat}{m:List (Int × V)} (M:LastM l o k m) {x:Evt} (hx:AtO l o k x):LastM l o (k+1) (kset m x.client (.agg x.cs)):=by
 intro c
 rw[z09h]
 by_cases hc:c=x.client
 ·rw[if_pos hc]
  exact⟨k,x,Nat.lt_succ_self k,hx,hc.symm,rfl,fun a' _ ha' _ _=>Nat.le_of_lt_succ ha'⟩
 ·rw[if_neg hc]
  have:=M c
  cases hf:zo7 m c with
  | none =>
   rw[hf] at this
   intro a y ha hy
   rcases Nat.lt_succ_iff_lt_or_eq.mp ha with q | q
   ·exact this a y q hy
   ·subst q; rw[AtO.same hy hx]; exact fun e=>hc e.symm
  | some v =>
   rw[hf] at this
   obtain⟨a,y,h1,h2,h3,h4,h5⟩:=this
   refine⟨a,y,Nat.lt_succ_of_lt h1,h2,h3,h4,fun a' y' ha' hy' hc' => ?_⟩
   rcases Nat.lt_succ_iff_lt_or_eq.mp ha' with q | q
   ·exact h5 a' y' q hy' hc'
   ·subst q; rw[AtO.same hy' hx] at hc'; exact absurd hc'.symm hc
theorem RightTo.step {l:List Evt}{clients:Int}{o:List Int}{k:Nat} (G:RightTo l clients o k) {x:Evt} (hx:AtO l o k x) (hb:x.bd clients) (hl:∀a y,a<k->AtO l o a y->y.client=x.client->(∀a' y',a'<k->AtO l o a' y'->y'.client=x.client->a'<=a)->y.op<x.op/\y.ended<x.begun) (hlast:(∃a y,a<k/\AtO l o a y/\y.client=x.client)->∃a y,a<k/\AtO l o a y/\y.client=x.client/\∀a' y',a'<k->AtO l o a' y'->y'.client=x.client->a'<=a):RightTo l clients o (k+1):=by
 refine⟨fun a y ha hy => ?_,fun a b u v hab hbk hu hv hc => ?_⟩
 ·rcases Nat.lt_succ_iff_lt_or_eq.mp ha with q | q
  ·exact G.1 a y q hy
  ·subst q; rw[AtO.same hy hx]; exact hb
 ·rcases Nat.lt_succ_iff_lt_or_eq.mp hbk with q | q
  ·exact G.2 a b u v hab q hu hv hc
  ·subst q
   have:=AtO.same hv hx
   subst this
   obtain⟨a2,y2,z1,z2,z3,z4⟩:=hlast ⟨a,u,hab,hu,hc⟩
   have z5:=hl a2 y2 z1 z2 z3 z4
   have z6:=z4 a u hab hu hc
   rcases Nat.lt_or_eq_of_le z6 with q | q
   ·have w1:=G.2 a a2 u y2 q z1 hu z2 (hc.trans z3.symm)
    have w2:=G.1 a2 y2 z1 z2
    have w3:=w2.p0
    have w4:=w2.p1
    exact⟨by omega,by omega⟩
   ·subst q
    rw[AtO.same hu z2]; exact z5
open Go.Sort (swp PermIn SortedIn SWO permIn_trans permIn_refl permIn_mono permIn_all insInner insOuter)
section
variable {lt:Int->Int->Bool}
theorem z041 {a e:Nat}:∀(j:Nat) (d:Array Int),a<=j->j<e->e<=d.size->PermIn a e d (insInner lt a j d)
 | 0,d,_,_,_=>by rw[insInner]; exact permIn_refl _ _ _
 | j+1,d,h1,h2,h3=>by
  rw[insInner]
  split
  ·rename_i hc
   have hc':j+1 > a:=by
    rw[Bool.and_eq_true] at hc; exact of_decide_eq_true hc.1
   exact permIn_trans _ _ _ _ _ (Go.Sort.swp_permIn _ a e _ _ (by omega) (by omega) (by omega) (by omega) h3) (z041 j _ (by omega) (by omega) (by rw[Go.Sort.swp_size]; exact h3))
  ·exact permIn_refl _ _ _
theorem z03v {a:Nat}:∀(j:Nat) (d:Array Int),j<d.size->(∀i,a<=i->i<j->d[i]! < d[j]!)->insInner lt a j d=insInner (ltS lt) a j d
 | 0,d,_,_=>by rw[insInner,insInner]
 | j+1,d,hj,h=>by
  rw[insInner,insInner]
  by_cases ha:j+1 > a
  ·rw[zzl (h j (by omega) (by omega))]
   cases hl:lt d[j+1]! d[j]! with
   | false=>simp
   | true =>
    simp only[decide_eq_true ha,Bool.and_self,if_true]
    refine z03v j _ (by rw[Go.Sort.swp_size]; omega) fun i h1 h2 => ?_
    rw[Go.Sort.swp_right _ _ _ (by omega),Go.Sort.swp_other _ _ _ _ (by omega) (by omega)]
    exact h i h1 (by omega)
  ·rw[decide_eq_false ha,Bool.false_and,Bool.false_and]; rfl
theorem z040 {a e:Nat}:∀(n i:Nat) (d:Array Int),e-i=n->a<=i->e<=d.size->(∀p q,a<=p->p<q->i<=q->q<e->d[p]! < d[q]!)->insOuter lt a e i d=insOuter (ltS lt) a e i d
 | 0,i,d,hn,_,_,_=>by
  have un:∀l:Int->Int->Bool,insOuter l a e i d=d:=fun l=>by rw[insOuter,if_neg (by omega)]
  rw[un,un]
 | n+1,i,d,hn,hai,he,h=>by
  have hi:i<e:=by omega
  have un:∀l:Int->Int->Bool,insOuter l a e i d=insOuter l a e (i+1) (insInner l a i d):=fun l=>by rw[insOuter,if_pos hi]
  rw[un,un,<-z03v i d (by omega) (fun k h1 h2=>h k i h1 h2 (Nat.le_refl _) hi)]
  have hp:=z041 (lt:=lt) (a:=a) (e:=i+1) i d hai (Nat.lt_succ_self i) (by omega)
  refine z040 n (i+1) _ (by omega) (by omega) (by rw[hp.1]; exact he) fun p q h1 h2 h3 h4 => ?_
  rw[hp.2.1 q (.inr h3)]
  by_cases hpi:p<i+1
  ·exact permIn_all d _ a (i+1) (fun v=>v<d[q]!) (by omega) hp (fun k h5 h6=>h k q h5 (by omega) (by omega) h4) p h1 hpi
  ·rw[hp.2.1 p (.inr (by omega))]; exact h p q h1 h2 (by omega) h4
theorem z08v (hlt:SWO lt) {a e:Nat}{d:Array Int} (hae:a<=e) (he:e<=d.size) (h:∀p q,a<=p->p<q->q<e->d[p]! < d[q]!):PermIn a e d (Go.Sort.insertionSort lt d a e)/\SortedIn (ltS lt) a e (Go.Sort.insertionSort lt d a e):=by
 have e1:Go.Sort.insertionSort lt d a e=Go.Sort.insertionSort (ltS lt) d a e:=by
  unfold Go.Sort.insertionSort
  exact z040 (e-(a+1)) (a+1) d rfl (by omega) he fun p q h1 h2 h3 h4=>h p q h1 h2 h4
 rw[e1]
 exact Go.Sort.insertionSort_holds (zz6 hlt) d a e hae he
def Cut (d:Array Int) (N c:Nat):Prop:=∀i j,i<c->c<=j->j<N->d[i]! < d[j]!
theorem Cut.perm {d R:Array Int}{N a e c:Nat} (h:Cut d N c) (hp:PermIn a e d R) (he:e<=d.size) (heN:e<=N) (hc:c<=a\/e<=c):Cut R N c:=by
 intro i j hi hj hjN
 rcases hc with hc | hc
 ·rw[hp.2.1 i (.inl (by omega))]
  by_cases q:a<=j/\j<e
  ·exact permIn_all d R a e (fun v=>d[i]! < v) he hp (fun k h1 h2=>h i k hi (by omega) (by omega)) j q.1 q.2
  ·rw[hp.2.1 j (by omega)]; exact h i j hi hj hjN
 ·rw[hp.2.1 j (.inr (by omega))]
  by_cases q:a<=i/\i<e
  ·exact permIn_all d R a e (fun v=>v<d[j]!) he hp (fun k h1 h2=>h k j (by omega) hj hjN) i q.1 q.2
  ·rw[hp.2.1 i (by omega)]; exact h i j hi hj hjN
def Blks (lt:Int->Int->Bool) (B:Nat) (d:Array Int) (P:Nat->Prop) (N:Nat):Prop :=
 ∀k p q,P k->k * B<=p->p<q->q<(k+1) * B->q<N->ltS lt d[q]! d[p]! = false
end
section
variable {h0 h:H}{b N f:Nat}{cs:List V}{lt:Int->Int->Bool}{d:Array Int}{c:Cap}
theorem z06t {k k' B:Nat} (h:k'<k):(k'+1) * B<=k * B:=Nat.mul_le_mul_right B h
theorem zz7 {k B:Nat}:k * (2 * B)=2 * k * B/\(k+1) * (2 * B)=k * (2 * B)+2 * B/\(2 * k+1) * B=k * (2 * B)+B/\(2 * k+1+1) * B=k * (2 * B)+2 * B:=by
 have e1:k * (2 * B)=2 * k * B:=by rw[<-Nat.mul_assoc,Nat.mul_comm k 2]
 refine⟨e1,by rw[Nat.add_mul,Nat.one_mul],by rw[Nat.add_mul,Nat.one_mul,e1],by rw[Nat.add_mul,Nat.add_mul,Nat.one_mul,e1]; omega⟩
theorem Blks.step {B k:Nat}{R:Array Int} (hb:Blks lt B d (· < k) N) (hp:PermIn (k * B) ((k+1) * B) d R) (hs:SortedIn (ltS lt) (k * B) ((k+1) * B) R):Blks lt B R (· < k+1) N:=by
 intro k' p q hk h1 h2 h3 h4
 rcases Nat.lt_succ_iff_lt_or_eq.mp hk with r | r
 ·have:=z06t (B:=B) r
  rw[hp.2.1 p (.inl (by omega)),hp.2.1 q (.inl (by omega))]
  exact hb k' p q r h1 h2 h3 h4
 ·subst r; exact hs p q h1 h2 h3
theorem Blks.last {B k:Nat}{R:Array Int} (hb:Blks lt B d (· < k) N) (hp:PermIn (k * B) N d R) (hs:SortedIn (ltS lt) (k * B) N R) (hN:N<(k+1) * B):Blks lt B R (fun _=>True) N:=by
 intro k' p q _ h1 h2 h3 h4
 rcases Nat.lt_trichotomy k' k with r | r | r
 ·have:=z06t (B:=B) r
  rw[hp.2.1 p (.inl (by omega)),hp.2.1 q (.inl (by omega))]
  exact hb k' p q r h1 h2 h3 h4
 ·subst r; exact hs p q h1 h2 h4
 ·have:=z06t (B:=B) r
  omega
structure Stg (h0:H) (b N:Nat) (lt:Int->Int->Bool) (B:Nat) (h:H) (d:Array Int):Prop where
 sw:Sw h0 b N h d
 perm:PermIn 0 N (idA N) d
 blk:Blks lt B d (fun _=>True) N
 cut:∀k,Cut d N (k * B)
structure Mid (h0:H) (b N:Nat) (lt:Int->Int->Bool) (B k:Nat) (h:H) (d:Array Int):Prop where
 sw:Sw h0 b N h d
 perm:PermIn 0 N (idA N) d
 done:Blks lt (2 * B) d (· < k) N
 rest:Blks lt B d (2 * k <= ·) N
 cut:∀k',Cut d N (k' * (2 * B))
 cut1:∀k',2 * k<=k'->Cut d N (k' * B)
 in_:k * (2 * B)<=N
theorem Stg.mid {B:Nat} (T:Stg h0 b N lt B h d):Mid h0 b N lt B 0 h d :=
 ⟨T.sw,T.perm,fun k p q hk=>absurd hk (Nat.not_lt_zero k),fun k p q _=>T.blk k p q trivial,fun k'=>by rw[(zz7 (k:=k') (B:=B)).1]; exact T.cut _,fun k' _=>T.cut k',by omega⟩
theorem Mid.mg {B k e:Nat} (M:Mid h0 b N lt B k h d) (h1:k * (2 * B)+B<=e) (h2:e<=k * (2 * B)+2 * B) (h3:e<=N):Mg lt (k * (2 * B)) (k * (2 * B)+B) e d:=by
 obtain⟨e1,e2,e3,e4⟩:=zz7 (k:=k) (B:=B)
 refine⟨fun p q z1 z2 z3 => ?_,fun p q z1 z2 z3 => ?_,fun i j z1 z2 z3 z4 => ?_⟩
 ·exact M.rest (2 * k) p q (Nat.le_refl _) (by omega) z2 (by omega) (by omega)
 ·exact M.rest (2 * k+1) p q (Nat.le_succ _) (by omega) z2 (by omega) (by omega)
 ·have:=M.cut1 (2 * k+1) (Nat.le_succ _)
  rw[e3] at this
  exact this i j z2 z3 (by omega)
theorem Mid.step {B k:Nat}{g:H}{R:Array Int} (M:Mid h0 b N lt B k h d) (A:Sw h0 b N g R) (hB:k * (2 * B)+2 * B<=N) (hp:PermIn (k * (2 * B)) (k * (2 * B)+2 * B) d R) (hs:SortedIn (ltS lt) (k * (2 * B)) (k * (2 * B)+2 * B) R):Mid h0 b N lt B (k+1) g R:=by
 obtain⟨e1,e2,e3,e4⟩:=zz7 (k:=k) (B:=B)
 have hsz:k * (2 * B)+2 * B<=d.size:=by rw[M.sw.sz]; exact hB
 refine⟨A,permIn_trans _ _ _ _ _ M.perm (permIn_mono _ _ _ _ 0 N (Nat.zero_le _) hB (by rw[M.sw.sz]; exact Nat.le_refl _) hp),M.done.step (by rw[e2]; exact hp) (by rw[e2]; exact hs),fun k' p q z1 z2 z3 z4 z5 => ?_,fun k' => ?_,fun k' z1 => ?_,by rw[e2]; exact hB⟩
 ·have z6:(2 * k+1+1) * B<=k' * B:=Nat.mul_le_mul_right B (by omega)
  rw[hp.2.1 p (.inr (by omega)),hp.2.1 q (.inr (by omega))]
  exact M.rest k' p q (by omega) z2 z3 z4 z5
 ·refine(M.cut k').perm hp hsz hB ?_
  rcases Nat.lt_or_ge k k' with r | r
  ·have:=z06t (B:=2 * B) r; omega
  ·exact .inl (Nat.mul_le_mul_right _ r)
 ·have z6:(2 * k+1+1) * B<=k' * B:=Nat.mul_le_mul_right B (by omega)
  exact(M.cut1 k' (by omega)).perm hp hsz hB (.inr (by omega))
theorem Mid.last {B k:Nat}{g:H}{R:Array Int} (M:Mid h0 b N lt B k h d) (A:Sw h0 b N g R) (hB:N<k * (2 * B)+2 * B) (hp:PermIn (k * (2 * B)) N d R) (hs:SortedIn (ltS lt) (k * (2 * B)) N R):Stg h0 b N lt (2 * B) g R:=by
 obtain⟨e1,e2,e3,e4⟩:=zz7 (k:=k) (B:=B)
 have hsz:N<=d.size:=by rw[M.sw.sz]; exact Nat.le_refl _
 refine⟨A,permIn_trans _ _ _ _ _ M.perm (permIn_mono _ _ _ _ 0 N (Nat.zero_le _) (Nat.le_refl _) hsz hp),M.done.last hp hs (by rw[e2]; exact hB),fun k' => ?_⟩
 intro i j hi hj hjN
 refine(M.cut k').perm hp hsz (Nat.le_refl _) ?_ i j hi hj hjN
 rcases Nat.lt_or_ge k k' with r | r
 ·have:=z06t (B:=2 * B) r; omega
 ·exact .inl (Nat.mul_le_mul_right _ r)
theorem Mid.one {B k:Nat} (M:Mid h0 b N lt B k h d) (hB:N<=k * (2 * B)+B):SortedIn (ltS lt) (k * (2 * B)) N d:=fun p q z1 z2 z3=>by
 obtain⟨e1,e2,e3,e4⟩:=zz7 (k:=k) (B:=B)
 exact M.rest (2 * k) p q (Nat.le_refl _) (by omega) z2 (by omega) z3
theorem z0h2 {B:Nat} (T:Stg h0 b N lt B h d) (K:Cmp h0 b N f cs lt) (hlt:SWO lt) (hN:N<=1000) (hB0:0<B) (hB:B<N) :
  Ev (S.z7v W (.sl b 0 N c) (N:Int) (.fn f cs) (B:Int) h) fun z=>∃d',z.1=.normal/\z.2.1=S.z3a (.sl b 0 N c) (.int .i64 (N:Int)) (.fn f cs) (.int .i64 ((2 * B:Nat):Int))/\Stg h0 b N lt (2 * B) z.2.2 d':=by
 have b9:B<=1000:=by omega
 have w1:=z08x (i:=B) (by omega)
 have w2:wr .i64 ((B:Int) * 2)=((2 * B:Nat):Int):=by rw[wr64 (by omega) (by omega)]; omega
 simp only[S.z7v,z2b hB,w1]
 refine z0f (α:=Nat × Array Int) (fun q=>S.z7p (.sl b 0 N c) (.int .i64 (N:Int)) (.fn f cs) (.int .i64 (B:Int)) (.int .i64 ((q.1 * (2 * B):Nat):Int)) (.int .i64 ((q.1 * (2 * B)+2 * B:Nat):Int)))
  (fun q h=>Mid h0 b N lt B q.1 h q.2) (fun q _=>N-q.1 * (2 * B))
  (fun z=>∃k d',z.1=.exit 4/\z.2.1=S.zcq (.sl b 0 N c) (.int .i64 (N:Int)) (.fn f cs) (.int .i64 (B:Int)) (.int .i64 ((k * (2 * B):Nat):Int))/\Mid h0 b N lt B k z.2.2 d'/\N<k * (2 * B)+2 * B) (0,d) (by simp only[Nat.zero_mul,Nat.zero_add]; rfl) T.mid ?_ ?_
 ·rintro⟨k,d1⟩ g M
  dsimp only at M
  rw[S.zsa]
  have hin:=M.in_
  have e2:=(zz7 (k:=k) (B:=B)).2.1
  by_cases hle:k * (2 * B)+2 * B<=N
  ·have w3:=zcu (i:=k * (2 * B)) (j:=B) (by clear w1 w2; omega)
   have w4:=zcu (i:=k * (2 * B)+2 * B) (j:=2 * B) (by clear w1 w2 w3; omega)
   obtain⟨⟨v,g1⟩,e1,R,rfl,r1,r2,A1⟩:=zzk (c:=c) K hlt hN (N+1) (k * (2 * B)) (k * (2 * B)+B) (k * (2 * B)+2 * B) d1 g (by clear w1 w2 w3 w4; omega) (by clear w1 w2 w3 w4; omega) (by clear w1 w2 w3 w4; omega) hle M.sw (M.mg (by clear w1 w2 w3 w4; omega) (Nat.le_refl _) hle)
   dsimp only at A1
   simp only[S.zd1,zkn hle,w1,w3,w4,z02,e1,zd]
   clear w1 w2 w3 w4 e1
   refine Ev.some (.inl ⟨(k+1,R),rfl,?_,M.step A1 hle r1 r2,by dsimp only; omega⟩)
   dsimp only
   rw[e2]
  ·simp only[S.zd1,zhj hle]
   exact Ev.some (.inr ⟨by simp,k,d1,rfl,rfl,M,by clear w1 w2; omega⟩)
 rintro⟨_,_,g⟩ ⟨k,d1,rfl,rfl,M,hlt2⟩
 dsimp only at M
 show Ev (S.zds W (.exit 4) _ _) _
 rw[S.zp1]
 have hin:=M.in_
 have w3:=zcu (i:=k * (2 * B)) (j:=B) (by clear w1 w2; omega)
 obtain⟨kI,hkI⟩:∃x:Int,x=((k * (2 * B):Nat):Int):=⟨_,rfl⟩
 obtain⟨bI,hbI⟩:∃x:Int,x=(B:Int):=⟨_,rfl⟩
 by_cases hm:k * (2 * B)+B<N
 ·obtain⟨⟨v,g1⟩,e1,R,rfl,r1,r2,A1⟩:=zzk (c:=c) K hlt hN (N+1) (k * (2 * B)) (k * (2 * B)+B) N d1 g (by clear w1 w2 w3; omega) (by clear w1 w2 w3; omega) hm (Nat.le_refl _) M.sw (M.mg (by clear w1 w2 w3; omega) (by clear w1 w2 w3; omega) (Nat.le_refl _))
  dsimp only at A1
  rw[<-hkI] at w3 e1 ⊢; rw[<-hbI] at w3 w2 ⊢
  simp only[S.zbs,w3,z2b hm,z02,e1,zd,w2]
  exact Ev.some ⟨R,rfl,rfl,M.last A1 hlt2 r1 r2⟩
 ·rw[<-hkI] at w3 ⊢; rw[<-hbI] at w3 w2 ⊢
  simp only[S.zbs,w3,z37 hm,w2]
  exact Ev.some ⟨d1,rfl,rfl,M.last M.sw hlt2 (permIn_refl _ _ _) (M.one (Nat.le_of_not_lt hm))⟩
structure Fst (h0:H) (b N:Nat) (lt:Int->Int->Bool) (k:Nat) (h:H) (d:Array Int):Prop where
 sw:Sw h0 b N h d
 perm:PermIn 0 N (idA N) d
 done:Blks lt 20 d (· < k) N
 rest:∀i,k * 20<=i->i<N->d[i]! = (i:Int)
 cut:∀k',Cut d N (k' * 20)
 in_:k * 20<=N
theorem Fst.up {k e:Nat} (F:Fst h0 b N lt k h d) (he:e<=N):∀p q,k * 20<=p->p<q->q<e->d[p]! < d[q]! := fun p q h1 h2 h3=>by
 rw[F.rest p h1 (by omega),F.rest q (by omega) (by omega)]; omega
theorem z0fy (A:Sw h0 b N h (idA N)) (K:Cmp h0 b N f cs lt) (hlt:SWO lt) (hN:N<=1000) :
  Ev (C 408 [.sl b 0 N c,.int .i64 (N:Int),.fn f cs] h) fun z=>∃R,z.1=.tup []/\PermIn 0 N (idA N) R/\SortedIn (ltS lt) 0 N R/\Sw h0 b N z.2 R:=by
 refine z0e (af:=F.z0h) (by kernel_rfl) rfl ?_
 rw[S.zvo]
 simp only[S.z0h]
 have F0:Fst h0 b N lt 0 h (idA N):=⟨A,permIn_refl _ _ _,fun k p q hk=>absurd hk (Nat.not_lt_zero k),fun i _ hi=>z02o hi,fun k' i j h1 h2 h3=>by rw[z02o (by omega),z02o h3]; omega,by omega⟩
 refine z0f (α:=Nat × Array Int) (fun q=>S.z7o (.sl b 0 N c) (.int .i64 (N:Int)) (.fn f cs) (.int .i64 20) (.int .i64 ((q.1 * 20:Nat):Int)) (.int .i64 ((q.1 * 20+20:Nat):Int)))
  (fun q h=>Fst h0 b N lt q.1 h q.2) (fun q _=>N-q.1 * 20)
  (fun z=>∃k d',z.1=.exit 0/\z.2.1=S.zd0 (.sl b 0 N c) (.int .i64 (N:Int)) (.fn f cs) (.int .i64 20) (.int .i64 ((k * 20:Nat):Int))/\Fst h0 b N lt k z.2.2 d'/\N<k * 20+20) (0,idA N) rfl F0 ?_ ?_
 ·clear A F0
  rintro⟨k,d1⟩ g F
  dsimp only at F
  rw[S.zs0]
  have hin:=F.in_
  by_cases hle:k * 20+20<=N
  ·have w3:wr .i64 (((k * 20+20:Nat):Int)+20)=(((k+1) * 20+20:Nat):Int):=by rw[wr64 (by omega) (by omega)]; omega
   obtain⟨⟨v,g1⟩,e1,rfl,A1⟩:=zvj (c:=c) (a:=k * 20) (e:=k * 20+20) F.sw K hN hle (by clear w3; omega)
   dsimp only at A1
   have hsz:k * 20+20<=d1.size:=by rw[F.sw.sz]; exact hle
   obtain⟨r1,r2⟩:=z08v hlt (Nat.le_add_right _ 20) hsz (F.up hle)
   generalize Go.Sort.insertionSort lt d1 (k * 20) (k * 20+20)=R at A1 r1 r2
   simp only[S.zcx,zkn hle,z02,e1,zd,w3]
   clear w3 e1
   refine Ev.some (.inl ⟨(k+1,R),rfl,?_,⟨A1,permIn_trans _ _ _ _ _ F.perm (permIn_mono _ _ _ _ 0 N (Nat.zero_le _) hle (by rw[F.sw.sz]; exact Nat.le_refl _) r1),F.done.step (by rw[Nat.add_mul,Nat.one_mul]; exact r1) (by rw[Nat.add_mul,Nat.one_mul]; exact r2),fun i h1 h2 => ?_,fun k' => ?_,by dsimp only; omega⟩,by dsimp only; omega⟩)
   ·dsimp only
    rw[show(k+1) * 20=k * 20+20 by omega]
   ·rw[r1.2.1 i (.inr (by dsimp only at h1; omega))]; exact F.rest i (by dsimp only at h1; omega) h2
   ·refine(F.cut k').perm r1 hsz hle ?_
    omega
  ·simp only[S.zcx,zhj hle]
   exact Ev.some (.inr ⟨by simp,k,d1,rfl,rfl,F,by omega⟩)
 clear A F0
 rintro⟨_,_,g⟩ ⟨k,d1,rfl,rfl,F,hlt2⟩
 dsimp only at F
 show Ev (S.ze2 W (.exit 0) _ _) _
 rw[S.zp6]
 have hin:=F.in_
 obtain⟨⟨v,g1⟩,e1,rfl,A1⟩:=zvj (c:=c) (a:=k * 20) (e:=N) F.sw K hN (Nat.le_refl _) hin
 dsimp only at A1
 have hsz:N<=d1.size:=by rw[F.sw.sz]; exact Nat.le_refl _
 obtain⟨r1,r2⟩:=z08v hlt hin hsz (F.up (Nat.le_refl _))
 generalize Go.Sort.insertionSort lt d1 (k * 20) N=R at A1 r1 r2
 have S0:Stg h0 b N lt 20 g1 R:=⟨A1,permIn_trans _ _ _ _ _ F.perm (permIn_mono _ _ _ _ 0 N (Nat.zero_le _) (Nat.le_refl _) hsz r1),F.done.last r1 r2 (by omega),fun k'=>by
  refine(F.cut k').perm r1 hsz (Nat.le_refl _) ?_
  rcases Nat.lt_or_ge k k' with r | r
  ·exact .inr (by omega)
  ·exact .inl (by omega)⟩
 simp only[S.zia,z02,e1,zd]
 clear e1 F r1 r2 A1
 refine z0f (α:=Nat × Array Int) (fun q=>S.z3a (.sl b 0 N c) (.int .i64 (N:Int)) (.fn f cs) (.int .i64 (q.1:Int)))
  (fun q h=>0<q.1/\Stg h0 b N lt q.1 h q.2) (fun q _=>N-q.1)
  (fun z=>∃B d',z.1=.exit 2/\z.2.1=S.zd2/\Stg h0 b N lt B z.2.2 d'/\N<=B) (20,R) rfl ⟨Nat.succ_pos 19,S0⟩ ?_ ?_
 ·clear S0
  rintro⟨B,d2⟩ g ⟨hB0,T⟩
  dsimp only at hB0 T
  rw[S.zri]
  by_cases hB:B<N
  ·refine(z0h2 T K hlt hN hB0 hB).mono ?_
   rintro⟨_,_,g2⟩ ⟨d3,rfl,rfl,S2⟩
   exact .inl ⟨(2 * B,d3),rfl,rfl,⟨by dsimp only; omega,S2⟩,by dsimp only; omega⟩
  ·simp only[S.z7v,z37 hB]
   exact Ev.some (.inr ⟨by simp,B,d2,rfl,rfl,T,Nat.le_of_not_lt hB⟩)
 rintro⟨_,_,g2⟩ ⟨B,d2,rfl,rfl,T,hB⟩
 dsimp only at T
 show Ev (S.zdx W (.exit 2) _ _) _
 rw[S.zou]
 refine Ev.some ⟨d2,rfl,T.perm,fun p q _ h2 h3=>T.blk 0 p q trivial (by omega) h2 (by omega) h3,T.sw⟩
theorem z08y (A:Sw h0 b N h (idA N)) (K:Cmp h0 b N f cs lt) (hlt:SWO lt) (hN:N<=1000) :
  Ev (C 335 [.sl b 0 N c,.fn f cs] h) fun z=>∃R,z.1=.tup []/\PermIn 0 N (idA N) R/\SortedIn (ltS lt) 0 N R/\Sw h0 b N z.2 R:=by
 refine z0e (af:=F.z13) (by kernel_rfl) rfl ?_
 rw[S.zon]
 obtain⟨⟨v,g⟩,e1,R,rfl,r1,r2,A2⟩:=z0fy (c:=c) A K hlt hN
 simp only[S.z13,z5p,zd,z02,e1]
 exact Ev.some ⟨R,rfl,r1,r2,A2⟩
end
open Go.Sort (swp PermIn SortedIn Below SWO)
theorem z0dn {g:H}{q n:Nat}{z vs:List V} (hq:g.get q=some (.cells z .rw)) (hz:z.length=n) (hv:vs.length=n) (h1:vs.all V.one=true):g.st n (.ptr q 0) (.agg vs)=some (g.put q (some (.cells vs .rw))):=by
 have e1:Nat.beq (V.cells (.agg vs)).length n=true:=by rw[za5,hv]; exact Nat.beq_refl n
 rw[z92,e1]
 simp only[za5,hq,z6q,h1,hv,hz,Nat.zero_add,Nat.le_refl,decide_true,Bool.not_true,Bool.or_false,reduceCtorEq,decide_false,Option.map_some,z07,List.take_zero,List.nil_append]
 rw[List.drop_of_length_le (by rw[hz]; exact Nat.le_refl _),List.append_nil]
theorem z002 {g:H}{q n:Nat}{vs:List V}{k:Bk} (hq:g.get q=some (.cells vs k)) (hv:vs.length=n):g.ldN n (.ptr q 0)=some (.agg vs):=by
 rw[zoo hq (by rw[hv]; omega),List.drop_zero,<-hv,List.take_length]
def opOf (l:List Evt) (i:Int):Int:=(l[i.toNat]?.map Evt.op).getD 0
def ltE (l:List Evt) (i j:Int):Bool:=decide (opOf l i<opOf l j)
theorem z0m7 (l:List Evt):SWO (ltE l) where
 irrefl x:=decide_eq_false (Int.lt_irrefl _)
 trans x y z h1 h2:=decide_eq_true (Int.lt_trans (of_decide_eq_true h1) (of_decide_eq_true h2))
 ntrans x y z h1 h2:=decide_eq_false (by have:=of_decide_eq_false h1; have:=of_decide_eq_false h2; omega)
theorem z0f6 {g:H}{bx:Nat}{x0:V}{l:List Evt}{k:Bk} (hb:g.get bx=some (.cells [x0] k)) (h1:x0.one=true) (hx:RowE g.get x0 l) {i j:Nat}{x y:Evt} (hi:l[i]?=some x) (hj:l[j]?=some y) :
  C 333 [.int .i64 (i:Int),.int .i64 (j:Int),.ptr bx 0] g=some (.int .i64 (cmp3 x.op y.op),g):=by
 have e:Ev (C 333 [.int .i64 (i:Int),.int .i64 (j:Int),.ptr bx 0] g) fun r=>r=(.int .i64 (cmp3 x.op y.op),g):=by
  refine z0e (af:=F.zey) (by kernel_rfl) rfl ?_
  rw[S.z0a1]
  have l0:g.ld1 (.ptr bx 0)=some x0:=z26 hb rfl h1
  obtain⟨eb,i1,_,_,_,i2,_⟩:=hx.at hi
  obtain⟨fb,j1,_,_,_,j2,_⟩:=hx.at hj
  simp only[S.zey,l0,zd,i1,j1,z1v,zk,i2,j2,z02,z0ex]
  exact Ev.some rfl
 obtain⟨r,e,rfl⟩:=e
 exact e
theorem z0j8 {h0:H}{b bx:Nat}{x0:V}{l:List Evt}{k:Bk} (ok:h0.ok) (hb:h0.get bx=some (.cells [x0] k)) (h1:x0.one=true) (hx:RowE h0.get x0 l) (n1:bx≠b) (n2:∀q∈x0.blk,q≠b):Cmp h0 b l.length 333 [.ptr bx 0] (ltE l):=by
 intro h F i j i0 i1 j0 j1
 obtain⟨i',rfl⟩:∃n:Nat,i=(n:Int):=⟨i.toNat,by omega⟩
 obtain⟨j',rfl⟩:∃n:Nat,j=(n:Int):=⟨j.toNat,by omega⟩
 obtain⟨x,hxi⟩:∃x,l[i']?=some x:=⟨_,List.getElem?_eq_getElem (by omega)⟩
 obtain⟨y,hyj⟩:∃x,l[j']?=some x:=⟨_,List.getElem?_eq_getElem (by omega)⟩
 refine⟨_,h,z0f6 (F.get ok hb (by simpa using n1)) h1 (hx.fr ok F (fun q hq=>by simpa using n2 q hq)) hxi hyj,?_,Fr.refl F.ok⟩
 rw[z00o]
 unfold ltE opOf
 rw[Int.toNat_natCast,Int.toNat_natCast,hxi,hyj]; rfl
def zi7 (n k:Nat):List V:=(List.range n).map fun i=>.int .i64 (if i<k then (i:Int) else 0)
theorem zqn (n k:Nat):(zi7 n k).length=n:=by unfold zi7; rw[List.length_map,List.length_range]
theorem z067 {n k i:Nat} (hi:i<n):(zi7 n k)[i]?=some (.int .i64 (if i<k then (i:Int) else 0)):=by
 unfold zi7; rw[List.getElem?_map,List.getElem?_range hi]; rfl
theorem z0bh {n k:Nat} (hk:k<n):(zi7 n k).set k (.int .i64 (k:Int))=zi7 n (k+1):=by
 apply List.ext_getElem?
 intro i
 by_cases hi:i<n
 ·rw[z067 hi]
  by_cases hik:k=i
  ·subst hik
   rw[List.getElem?_set_self (by rw[zqn]; exact hk),if_pos (Nat.lt_succ_self k)]
  ·rw[List.getElem?_set_ne hik,z067 hi]
   by_cases h1:i<k
   ·rw[if_pos h1,if_pos (Nat.lt_succ_of_lt h1)]
   ·rw[if_neg h1,if_neg (by omega)]
 ·rw[List.getElem?_eq_none (by rw[List.length_set,zqn]; omega),List.getElem?_eq_none (by rw[zqn]; omega)]
theorem z0ay (n:Nat):zi7 n n=ints (idA n):=by
 unfold zi7 ints idA
 rw[List.map_map]
 apply List.map_congr_left
 intro i hi
 rw[if_pos (List.mem_range.mp hi)]; rfl
theorem z0i5 (n:Nat):repl [V.int .i64 0] n=zi7 n 0:=by
 apply List.ext_getElem?
 intro i
 have hl:∀n,(repl [V.int .i64 0] n)=List.replicate n (V.int .i64 0):=fun n=>by
  induction n with
  | zero=>rfl
  | succ n ih=>simp only[repl,ih,List.replicate_succ,List.cons_append,List.nil_append]
 rw[hl]
 by_cases hi:i<n
 ·rw[z067 hi,List.getElem?_replicate,if_pos hi]; rfl
 ·rw[List.getElem?_eq_none (by rw[List.length_replicate]; omega),List.getElem?_eq_none (by rw[zqn]; omega)]
theorem z0jr {h:H}{n:Nat} (hn:n<=1000000):h.mkSl 1 8 [(.int .i64 0)] (n:Int) (n:Int)=some (.sl h.next 0 n (.ex n),h.new (.cells (zi7 n 0) .rw)):=by
 have h0:(0:Int)<=(n:Int):=Int.natCast_nonneg n
 have h1:(n:Int) * ((8:Nat):Int)<=140737488355328:=by omega
 have h2:(n:Int)<=9223372036854775807:=by omega
 rw[zvi (e:=1) (z:=[.int .i64 0]) h0 (Int.le_refl _) h1 h2 rfl (by decide),Int.toNat_natCast,z0i5]
theorem hr_k {k:Nat} (h:k<=9000):wr .i64 ((k:Int)+1)=((k+1:Nat):Int):=by rw[wr64 (by omega) (by omega)]; rfl
structure RtSt (h g:H) (x0:V) (l:List Evt) (bx b mb:Nat) (d:Array Int) (m:List (Int × V)):Prop where
 fr:Fr [] h g
 box:g.get bx=some (.cells [x0] .rw)
 arr:g.get b=some (.cells (ints d) .rw)
 map:g.get mb=some (.map (KV .i64 m))
 nmb:h.next<=mb
 n1:mb≠bx
 n2:mb≠b
theorem RtSt.fr' {h g g':H}{x0:V}{l:List Evt}{bx b mb:Nat}{d:Array Int}{m:List (Int × V)} (Z:RtSt h g x0 l bx b mb d m) (F:Fr [] g g'):RtSt h g' x0 l bx b mb d m :=
 ⟨Z.fr.trans F (by simp),F.get Z.fr.ok Z.box (by simp),F.get Z.fr.ok Z.arr (by simp),F.get Z.fr.ok Z.map (by simp),Z.nmb,Z.n1,Z.n2⟩
theorem RtSt.set {h g:H}{x0:V}{l:List Evt}{bx b mb:Nat}{d:Array Int}{m:List (Int × V)} (Z:RtSt h g x0 l bx b mb d m) (m':List (Int × V)):RtSt h (g.put mb (some (.map (KV .i64 m')))) x0 l bx b mb d m' :=
 ⟨Z.fr.put (.inr Z.nmb) (Z.fr.ok.lt Z.map) _,by rw[zf (Ne.symm Z.n1)]; exact Z.box,by rw[zf (Ne.symm Z.n2)]; exact Z.arr,zq _ _ _,Z.nmb,Z.n1,Z.n2⟩
def zE:List V:=[(.int .i64 0),(.int .i64 0),(.int .i64 0),(.int .i64 0),(.int .i64 0),(.bool false),(.int .i64 0),(.int .i64 0),(.int .u64 0),(.int .u64 0),(.int .u64 0),(.int .i64 0),(.int .u64 0),(.bool false)]
theorem z06n {g:H} (ok:g.ok) {vs:List V} (hv:vs.length=14) (h1:vs.all V.one=true):∃g',(g.new (.cells zE .rw)).st 14 (.ptr g.next 0) (.agg vs)=some g'/\Fr [] g g'/\g'.get g.next=some (.cells vs .rw)/\g'.next=g.next+1 :=
 ⟨_,z0dn (z:=zE) (ze _ _) rfl hv h1,((Fr.refl ok).new _).put (.inr (Nat.le_refl _)) (by rw[H.next_new]; exact Nat.lt_succ_self _) _,zq _ _ _,by rw[H.next_put,H.next_new]⟩
theorem zz4 (x:Evt):x.cs.all V.one=true:=rfl
theorem z0i4 {h:H} (ok:h.ok) {x0:V}{l:List Evt} (hx:RowE h.get x0 l) (h1:x0.one=true) (hl:l.length<=60) {bx b mb:Nat}{d:Array Int}{m:List (Int × V)}{g:H} (Z:RtSt h g x0 l bx b mb d m) (hd:d.size=l.length) (P:AllNums l.length d.toList) (hs:z0a7 l d.toList)
  {clients:Int}{k:Nat} (hk:k<l.length) (G:RightTo l clients d.toList k) (M:LastM l d.toList k m) {c:Cap} :
  Ev (S.zmo W clients (.ptr bx 0) (.map mb) (.sl b 0 l.length c) (l.length:Nat) (k:Nat) g) fun r =>
   (r.1=.ret/\r.2.1=S.z24 (.bool false)/\Fr [] h r.2.2/\¬RightTo l clients d.toList (k+1)) \/
   ∃m',r.1=.normal/\r.2.1=S.z7s (.int .i64 clients) (.ptr bx 0) (.map mb) (.sl b 0 l.length c) (.int .i64 (l.length:Nat)) (.int .i64 (k+1:Nat))/\RtSt h r.2.2 x0 l bx b mb d m'/\RightTo l clients d.toList (k+1)/\LastM l d.toList (k+1) m':=by
 have hdk:decide ((k:Int)<(l.length:Int))=true:=decide_eq_true (by omega)
 have wk:=hr_k (k:=k) (by omega)
 obtain⟨i,hi,hoi⟩:=P.at hk
 obtain⟨x,hxi⟩:∃x,l[i]?=some x:=⟨_,List.getElem?_eq_getElem hi⟩
 have hat:AtO l d.toList k x:=⟨i,hoi,hxi⟩
 have hdi:d[k]! = (i:Int):=by
  rw[ztt (by rw[hd]; exact hk)] at hoi; exact Option.some.inj hoi
 have i0:=zs (b:=b) (c:=c) hk
 have l0:ldB (g.get b) k=some (.int .i64 (i:Int)):=by
  rw[Z.arr,z08,z0d5 (by rw[hd]; exact hk),hdi]; rfl
 have l1:g.ld1 (.ptr bx 0)=some x0:=z26 Z.box rfl h1
 obtain⟨eb,i1,l2,_⟩:=(hx.fr ok Z.fr (by simp)).at hxi
 obtain⟨g6,s6,F6,c6,n6⟩:=z06n Z.fr.ok (vs:=x.cs) rfl (zz4 x)
 have Z6:=Z.fr' F6
 have bad:∀ {g':H},Fr [] h g'->¬RightTo l clients d.toList (k+1)->Ev (some (AX.ret,S.z24 (.bool false),g')) fun r =>
   (r.1=.ret/\r.2.1=S.z24 (.bool false)/\Fr [] h r.2.2/\¬RightTo l clients d.toList (k+1)) \/
   ∃m',r.1=.normal/\r.2.1=S.z7s (.int .i64 clients) (.ptr bx 0) (.map mb) (.sl b 0 l.length c) (.int .i64 (l.length:Nat)) (.int .i64 (k+1:Nat))/\RtSt h r.2.2 x0 l bx b mb d m'/\RightTo l clients d.toList (k+1)/\LastM l d.toList (k+1) m' :=
  fun F hb=>Ev.some (.inl ⟨rfl,rfl,F,hb⟩)
 have s6':(g.new (.cells [(.int .i64 0),(.int .i64 0),(.int .i64 0),(.int .i64 0),(.int .i64 0),(.bool false),(.int .i64 0),(.int .i64 0),(.int .u64 0),(.int .u64 0),(.int .u64 0),(.int .i64 0),(.int .u64 0),(.bool false)] .rw)).st 14 (.ptr g.next 0) (.agg x.cs)=some g6:=s6
 have q0:g6.ld1 (.ptr g.next 0)=some (.int .i64 x.client):=z26 c6 rfl rfl
 have q1:g6.ld1 (.ptr g.next 1)=some (.int .i64 x.op):=z26 c6 rfl rfl
 have q2:g6.ld1 (.ptr g.next 2)=some (.int .i64 x.begun):=z26 c6 rfl rfl
 have q3:g6.ld1 (.ptr g.next 3)=some (.int .i64 x.point):=z26 c6 rfl rfl
 have q4:g6.ld1 (.ptr g.next 4)=some (.int .i64 x.ended):=z26 c6 rfl rfl
 have l0':g.ld1 (.ptr b k)=some (.int .i64 (i:Int)):=by rw[zk]; exact l0
 have l2':g.ldN 14 (.ptr eb (i * 14))=some (.agg x.cs):=by rw[z34]; exact l2
 simp only[S.zmo,hdk,i0,zd,l0',l1,i1,l2',s6',q0,q2,q3,q4,zm]
 by_cases b1:x.client<0
 ·simp only[decide_eq_true b1]
  exact bad Z6.fr fun G=>by have:=(G.1 k x (Nat.lt_succ_self k) hat).c0; omega
 simp only[decide_eq_false b1]
 by_cases b2:clients<=x.client
 ·simp only[decide_eq_true b2]
  exact bad Z6.fr fun G=>by have:=(G.1 k x (Nat.lt_succ_self k) hat).c1; omega
 simp only[decide_eq_false b2]
 by_cases b3:x.point<x.begun
 ·simp only[decide_eq_true b3]
  exact bad Z6.fr fun G=>by have:=(G.1 k x (Nat.lt_succ_self k) hat).p0; omega
 simp only[decide_eq_false b3]
 by_cases b4:x.ended<x.point
 ·simp only[decide_eq_true b4]
  exact bad Z6.fr fun G=>by have:=(G.1 k x (Nat.lt_succ_self k) hat).p1; omega
 simp only[decide_eq_false b4]
 have bd:x.bd clients:=⟨by omega,by omega,by omega,by omega⟩
 have lk:=z0m8 Z6.map (.agg [(.int .i64 0),(.int .i64 0),(.int .i64 0),(.int .i64 0),(.int .i64 0),(.bool false),(.int .i64 0),(.int .i64 0),(.int .u64 0),(.int .u64 0),(.int .u64 0),(.int .i64 0),(.int .u64 0),(.bool false)]) x.client
 have hm:=M x.client
 cases hf:zo7 m x.client with
 | none =>
  rw[hf] at hm lk
  dsimp only at lk
  obtain⟨g7,s7,F7,c7,n7⟩:=z06n Z6.fr.ok (vs:=zE) rfl rfl
  have s7':(g6.new (.cells [(.int .i64 0),(.int .i64 0),(.int .i64 0),(.int .i64 0),(.int .i64 0),(.bool false),(.int .i64 0),(.int .i64 0),(.int .u64 0),(.int .u64 0),(.int .u64 0),(.int .i64 0),(.int .u64 0),(.bool false)] .rw)).st 14 (.ptr g6.next 0) (.agg [(.int .i64 0),(.int .i64 0),(.int .i64 0),(.int .i64 0),(.int .i64 0),(.bool false),(.int .i64 0),(.int .i64 0),(.int .u64 0),(.int .u64 0),(.int .u64 0),(.int .i64 0),(.int .u64 0),(.bool false)])=some g7:=s7
  have Z7:=Z6.fr' F7
  have c6':=F7.get Z6.fr.ok c6 (by simp)
  have q5:g7.ld1 (.ptr g.next 0)=some (.int .i64 x.client):=z26 c6' rfl rfl
  have q6:=z002 (n:=14) c6' rfl
  have ms:=z0az Z7.map x.client (.agg x.cs)
  simp only[lk,zd,List.getElem?_cons_zero,List.getElem?_cons_succ,s7',q5,q6,ms,wk]
  refine Ev.some (.inr ⟨_,rfl,rfl,Z7.set _,G.step hat bd (fun a y ha hy hc _=>absurd hc (hm a y ha hy)) ?_,M.step hat⟩)
  rintro⟨a,y,ha,hy,hc⟩
  exact absurd hc (hm a y ha hy)
 | some v =>
  rw[hf] at hm lk
  obtain⟨a,y,ha,hy,hc,rfl,hlast⟩:=hm
  dsimp only at lk
  obtain⟨g7,s7,F7,c7,n7⟩:=z06n Z6.fr.ok (vs:=y.cs) rfl (zz4 y)
  have s7':(g6.new (.cells [(.int .i64 0),(.int .i64 0),(.int .i64 0),(.int .i64 0),(.int .i64 0),(.bool false),(.int .i64 0),(.int .i64 0),(.int .u64 0),(.int .u64 0),(.int .u64 0),(.int .i64 0),(.int .u64 0),(.bool false)] .rw)).st 14 (.ptr g6.next 0) (.agg y.cs)=some g7:=s7
  have Z7:=Z6.fr' F7
  have c6':=F7.get Z6.fr.ok c6 (by simp)
  have q5:g7.ld1 (.ptr g.next 0)=some (.int .i64 x.client):=z26 c6' rfl rfl
  have q6:=z002 (n:=14) c6' rfl
  have q7:g7.ld1 (.ptr g6.next 1)=some (.int .i64 y.op):=z26 c7 rfl rfl
  have q8:g7.ld1 (.ptr g.next 1)=some (.int .i64 x.op):=z26 c6' rfl rfl
  have q9:=z002 (n:=14) c7 rfl
  have ah:=z0gs y x g7
  have ms:=z0az Z7.map x.client (.agg x.cs)
  have hsort:=hs a k y x ha hy hat
  by_cases e1:y.op=x.op
  ·simp only[lk,zd,List.getElem?_cons_zero,List.getElem?_cons_succ,s7',q7,q8,zm,decide_eq_true e1]
   exact bad Z7.fr fun G=>by have:=(G.2 a k y x ha (Nat.lt_succ_self k) hy hat hc).1; omega
  by_cases e2:y.ended<x.begun
  ·rw[decide_eq_true e2] at ah
   simp only[lk,zd,List.getElem?_cons_zero,List.getElem?_cons_succ,s7',q7,q8,zm,decide_eq_false e1,q9,q6,z02,ah,z0x,Bool.not_true,q5,ms,wk]
   refine Ev.some (.inr ⟨_,rfl,rfl,Z7.set _,G.step hat bd (fun a2 y2 h2 hy2 hc2 hl2 => ?_) (fun _=>⟨a,y,ha,hy,hc,hlast⟩),M.step hat⟩)
   have z1:=hl2 a y ha hy hc
   have z2:=hlast a2 y2 h2 hy2 hc2
   have:a=a2:=Nat.le_antisymm z1 z2
   subst this
   rw[AtO.same hy2 hy]
   exact⟨by omega,e2⟩
  ·rw[decide_eq_false e2] at ah
   simp only[lk,zd,List.getElem?_cons_zero,List.getElem?_cons_succ,s7',q7,q8,zm,decide_eq_false e1,q9,q6,z02,ah,z0x,Bool.not_false]
   exact bad Z7.fr fun G=>e2 (G.2 a k y x ha (Nat.lt_succ_self k) hy hat hc).2
theorem z0dv {g:Nat->Option Blk}{x:V}{l:List Evt} (h:RowE g x l):x.one=true:=by
 obtain⟨rfl,_⟩ | ⟨b,c,k,rfl,_⟩:=h <;> rfl
theorem z0eo {g:Nat->Option Blk}{x:V}{l:List Evt} (h:RowE g x l):boxc x=some [x]:=by
 obtain⟨rfl,_⟩ | ⟨b,c,k,rfl,_⟩:=h <;> rfl
theorem z0gw {l:List Evt}{d:Array Int} (hd:d.size=l.length) (hs:SortedIn (ltE l) 0 l.length d):z0a7 l d.toList:=by
 rintro a b x y hab ⟨i,hi,hxi⟩ ⟨j,hj,hyj⟩ hlt
 have hb:=z0a hj
 rw[Array.length_toList,hd] at hb
 have h1:=hs a b (Nat.zero_le _) hab hb
 rw[ztt (by rw[hd]; omega)] at hi
 rw[ztt (by rw[hd]; exact hb)] at hj
 rw[Option.some.inj hi,Option.some.inj hj] at h1
 have h2:=of_decide_eq_false h1
 unfold opOf at h2
 rw[Int.toNat_natCast,Int.toNat_natCast,hxi,hyj] at h2
 exact h2 hlt
theorem z0hx {h:H} (ok:h.ok) {x0:V}{l:List Evt} (hx:RowE h.get x0 l) (hl:l.length<=60) (clients:Int) :
  Ev (C 178 [x0,.int .i64 clients] h) fun r=>∃v,r.1=.bool v/\(v=true<->zlu l clients)/\Fr [] h r.2:=by
 refine z0e (af:=F.z98) (by kernel_rfl) rfl ?_
 rw[S.z0co]
 have bx:=z0eo hx
 have h1:=z0dv hx
 have hxl:=hx.len
 have F0:Fr [] h ((h.new (.cells [x0] .rw)).new (.map [])):=((Fr.refl ok).new _).new _
 have g1:((h.new (.cells [x0] .rw)).new (.map [])).get h.next=some (.cells [x0] .rw):=by
  rw[z0z (by rw[H.next_new]; omega)]; exact ze _ _
 have l1:((h.new (.cells [x0] .rw)).new (.map [])).ld1 (.ptr h.next 0)=some x0:=z26 g1 rfl h1
 have m1:((h.new (.cells [x0] .rw)).new (.map [])).get (h.next+1)=some (.map (KV .i64 [])):=ze _ _
 have n1:((h.new (.cells [x0] .rw)).new (.map [])).next=h.next+2:=rfl
 have nn:(h.new (.cells [x0] .rw)).next=h.next+1:=rfl
 have mk:=z0jr (h:=(h.new (.cells [x0] .rw)).new (.map [])) (n:=l.length) (Nat.le_trans hl (by decide))
 rw[n1] at mk
 simp only[S.z98,bx,zd,l1,hxl,mk,z5p,nn]
 have F1:=F0.new (.cells (zi7 l.length 0) .rw)
 have g2:=F1
 generalize hgg:((h.new (.cells [x0] .rw)).new (.map [])).new (.cells (zi7 l.length 0) .rw)=g at F1
 have b1:g.get h.next=some (.cells [x0] .rw):=by rw[<-hgg,z0z (by rw[n1]; omega)]; exact g1
 have b2:g.get (h.next+1)=some (.map (KV .i64 [])):=by rw[<-hgg,z0z (by rw[n1]; omega)]; exact m1
 have b3:g.get (h.next+2)=some (.cells (zi7 l.length 0) .rw):=by rw[<-hgg,<-n1]; exact ze _ _
 clear hgg mk l1 m1 g1 n1 nn F0 g2
 refine z0f (α:=Nat) (fun k=>S.zmq (.int .i64 clients) (.ptr h.next 0) (.map (h.next+1)) (.sl (h.next+2) 0 l.length (.ex l.length)) (.int .i64 (l.length:Nat)) (.int .i64 (k:Nat)))
  (fun k g=>k<=l.length/\Fr [] h g/\g.get h.next=some (.cells [x0] .rw)/\g.get (h.next+1)=some (.map (KV .i64 []))/\g.get (h.next+2)=some (.cells (zi7 l.length k) .rw)) (fun k _=>l.length-k)
  (fun r=>r.1=.exit 0/\r.2.1=S.zto (.int .i64 clients) (.ptr h.next 0) (.map (h.next+1)) (.sl (h.next+2) 0 l.length (.ex l.length))/\Fr [] h r.2.2/\r.2.2.get h.next=some (.cells [x0] .rw)/\r.2.2.get (h.next+1)=some (.map (KV .i64 []))/\r.2.2.get (h.next+2)=some (.cells (ints (idA l.length)) .rw))
  0 rfl ⟨Nat.zero_le _,F1,b1,b2,b3⟩ ?_ ?_
 ·clear b1 b2 b3 F1
  rintro k g ⟨hk,F,b1,b2,b3⟩
  rw[S.z083]
  by_cases hkl:k<l.length
  ·have hd:decide ((k:Int)<(l.length:Int))=true:=decide_eq_true (by omega)
   have wk:=hr_k (k:=k) (by omega)
   have i0:=zs (b:=h.next+2) (c:=.ex l.length) hkl
   have s0:=zr7 b3 (by simp) (z97 .i64 (k:Int)) (by rw[zqn]; exact hkl)
   rw[z0bh hkl] at s0
   simp only[S.zsj,hd,i0,zd,s0,wk]
   exact Ev.some (.inl ⟨k+1,rfl,rfl,⟨hkl,F.put (.inr (by omega)) (F.ok.lt b3) _,by rw[zf (by omega)]; exact b1,by rw[zf (by omega)]; exact b2,zq _ _ _⟩,Nat.sub_lt_sub_left hkl (Nat.lt_succ_self k)⟩)
  ·have hke:k=l.length:=Nat.le_antisymm hk (Nat.le_of_not_lt hkl)
   have hd:decide ((k:Int)<(l.length:Int))=false:=decide_eq_false (by omega)
   simp only[S.zsj,hd]
   rw[hke,z0ay] at b3
   exact Ev.some (.inr ⟨by simp,rfl,rfl,F,b1,b2,b3⟩)
 clear b1 b2 b3 F1
 rintro⟨_,_,g⟩ ⟨rfl,rfl,F,b1,b2,b3⟩
 dsimp only at F b1 b2 b3
 show Ev (S.zxd W (.exit 0) _ _) _
 rw[S.z05b]
 have A0:Sw g (h.next+2) l.length g (idA l.length):=⟨Fr.refl F.ok,b3,z02w _,fun i hi=>by rw[z02o hi]; omega⟩
 have hxg:=hx.fr ok F (by simp)
 have K:Cmp g (h.next+2) l.length 333 [.ptr h.next 0] (ltE l):=z0j8 F.ok b1 h1 hxg (by omega) (fun q hq=>by have:=hx.lt ok q hq; omega)
 obtain⟨⟨v,g2⟩,e2,R,rfl,r1,r2,A2⟩:=z0c3 (c:=.ex l.length) A0 K (z0m7 l) (by omega)
 dsimp only at A2
 simp only[S.zzm,z02,e2,zd,z5p]
 have P:=AllNums.of A2.sz r1
 have hs:=z0gw A2.sz r2
 have hiff:=z0fd (clients:=clients) P hs
 have F2:Fr [] h g2:=F.trans A2.fr (fun q hq=>by rw[List.mem_singleton] at hq; exact .inr (by omega))
 have Z0:RtSt h g2 x0 l h.next (h.next+2) (h.next+1) R []:=⟨F2,A2.fr.get F.ok b1 (by simp),A2.at_,A2.fr.get F.ok b2 (by simp),by omega,by omega,by omega⟩
 refine z0f (α:=Nat × List (Int × V)) (fun z=>S.z7s (.int .i64 clients) (.ptr h.next 0) (.map (h.next+1)) (.sl (h.next+2) 0 l.length (.ex l.length)) (.int .i64 (l.length:Nat)) (.int .i64 (z.1:Nat)))
  (fun z g=>z.1<=l.length/\RtSt h g x0 l h.next (h.next+2) (h.next+1) R z.2/\RightTo l clients R.toList z.1/\LastM l R.toList z.1 z.2) (fun z _=>l.length-z.1)
  (fun r=>Fr [] h r.2.2/\((r.1=.ret/\r.2.1=S.z24 (.bool false)/\¬zlu l clients)\/(r.1=.exit 2/\r.2.1=S.z24 .dead/\zlu l clients)))
  (0,[]) rfl ⟨Nat.zero_le _,Z0,⟨fun a y ha=>absurd ha (Nat.not_lt_zero a),fun a b x y _ hb=>absurd hb (Nat.not_lt_zero b)⟩,LastM.zero _ _⟩ ?_ ?_
 ·rintro⟨k,m⟩ g ⟨hk,Z,G,M⟩
  dsimp only at hk Z G M ⊢
  rw[S.z089]
  by_cases hkl:k<l.length
  ·refine(z0i4 ok hx h1 hl Z A2.sz P hs hkl G M).mono ?_
   rintro⟨_,_,g'⟩ (⟨rfl,rfl,F,hb⟩ | ⟨m',rfl,rfl,Z',G',M'⟩)
   ·refine .inr ⟨by simp,F,.inl ⟨rfl,rfl,fun hr=>hb ?_⟩⟩
    have:=hiff.mpr hr
    exact⟨fun a y ha=>this.1 a y (by omega),fun a b x y hab hb'=>this.2 a b x y hab (by omega)⟩
   ·exact .inl ⟨(k+1,m'),rfl,rfl,⟨hkl,Z',G',M'⟩,Nat.sub_lt_sub_left hkl (Nat.lt_succ_self k)⟩
  ·have hke:k=l.length:=Nat.le_antisymm hk (Nat.le_of_not_lt hkl)
   have hd:decide ((k:Int)<(l.length:Int))=false:=decide_eq_false (by omega)
   simp only[S.zmo,hd]
   exact Ev.some (.inr ⟨by simp,Z.fr,.inr ⟨rfl,rfl,hiff.mp (hke ▸ G)⟩⟩)
 rintro⟨_,_,g⟩ ⟨F,(⟨rfl,rfl,hb⟩ | ⟨rfl,rfl,hb⟩)⟩
 ·show Ev (S.zlw W .ret _ g) _
  rw[S.z06h]
  exact Ev.some ⟨false,rfl,⟨fun h=>(absurd h (by decide)),fun h=>absurd h hb⟩,F⟩
 ·show Ev (S.zlw W (.exit 2) _ g) _
  rw[S.z04q]
  exact Ev.some ⟨true,rfl,⟨fun _=>hb,fun _=>rfl⟩,F⟩
def bI (b:Bool):Int:=if b then 1 else 0
def orI (a b c d:Int):Int:=if a≠0 then a else if b≠0 then b else if c≠0 then c else d
def ordI (x y:Evt):Int:=orI (cmp3 x.point y.point) (cmp3 (bI x.behind) (bI y.behind)) (cmp3 x.client y.client) (cmp3 x.op y.op)
def zxn (x y:Evt):Bool :=
 if x.point=y.point then if x.behind=y.behind then if x.client=y.client then decide (x.op<y.op) else decide (x.client<y.client) else y.behind else decide (x.point<y.point)
theorem zqt {a b:Int}:cmp3 a b=0<->a=b:=by
 unfold cmp3
 by_cases h1:a<b
 ·simp[h1]; omega
 ·by_cases h2:b<a
  ·simp[h1,h2]; omega
  ·simp[h1,h2]; omega
theorem z0lf (x y:Evt):decide (ordI x y<0)=zxn x y:=by
 unfold ordI orI zxn
 by_cases h1:x.point=y.point
 ·rw[if_neg (by rw[zqt.mpr h1]; simp),if_pos h1]
  by_cases h2:x.behind=y.behind
  ·rw[if_neg (by rw[h2,zqt.mpr rfl]; simp),if_pos h2]
   by_cases h3:x.client=y.client
   ·rw[if_neg (by rw[zqt.mpr h3]; simp),if_pos h3,z00o]
   ·rw[if_pos (fun e=>h3 (zqt.mp e)),if_neg h3,z00o]
  ·have:bI x.behind≠bI y.behind:=by
    cases hx:x.behind <;> cases hy:y.behind <;> simp_all [bI]
   rw[if_pos (fun e=>this (zqt.mp e)),if_neg h2,z00o]
   cases hx:x.behind <;> cases hy:y.behind <;> simp_all [bI]
 ·rw[if_pos (fun e=>h1 (zqt.mp e)),if_neg h1,z00o]
theorem z0f1 (e:Evt) (h:H):C 338 [.agg e.cs] h=some (.int .i64 (bI e.behind),h):=by
 refine za7 (af:=F.zep) (by kernel_rfl) rfl (by rfl) (by rfl) h ?_
 unfold Evt.cs
 rw[S.z0at]
 have h0:H.empty.next=0:=rfl
 cases e.behind with
 | true =>
  simp only[S.zep,zt_,V.one,h0]
  exact Ev.some rfl
 | false =>
  simp only[S.zep,zt_,V.one,h0]
  exact Ev.some rfl
theorem z0mu {g:H}{q:Nat}{a b c d:Int} (hq:g.get q=some (.cells [.int .i64 a,.int .i64 b,.int .i64 c,.int .i64 d] .rw)) :
  C 337 [.sl q 0 4 (.ex 4)] g=some (.int .i64 (orI a b c d),g):=by
 have e:Ev (C 337 [.sl q 0 4 (.ex 4)] g) fun r=>r=(.int .i64 (orI a b c d),g):=by
  refine z0e (af:=F.zaf) (by kernel_rfl) rfl ?_
  rw[S.z0ae]
  simp only[S.zaf,z5p,zd]
  have at':∀k:Nat,k<4->∃v,[a,b,c,d][k]?=some v/\ldB (g.get q) k=some (.int .i64 v):=fun k hk=>by
   refine⟨[a,b,c,d][k],List.getElem?_eq_getElem hk,?_⟩
   rw[hq,z08]
   have:[V.int .i64 a,.int .i64 b,.int .i64 c,.int .i64 d]=[a,b,c,d].map (.int .i64):=rfl
   rw[this,List.getElem?_map,List.getElem?_eq_getElem hk]; rfl
  refine z0f (α:=Nat) (fun k=>S.zlf (.int .i64 0) (.sl q 0 4 (.ex 4)) (.int .i64 ((4:Nat):Int)) (.int .i64 (k:Int)))
   (fun k g'=>k<=4/\g'=g/\∀i v,i<k->[a,b,c,d][i]?=some v->v=0) (fun k _=>4-k)
   (fun r=>r.2.2=g/\((r.1=.ret/\r.2.1=S.zdu (.int .i64 (orI a b c d)) (.int .i64 0))\/(r.1=.exit 0/\r.2.1=S.zdu .dead (.int .i64 0)/\orI a b c d=0))) 0 rfl ⟨Nat.zero_le _,rfl,fun i v hi=>absurd hi (Nat.not_lt_zero i)⟩ ?_ ?_
  ·rintro k g' ⟨hk,rfl,hz⟩
   rw[S.z07n]
   by_cases hk4:k<4
   ·have d0:decide ((k:Int)<((4:Nat):Int))=true:=decide_eq_true (by omega)
    have i0:=zs (b:=q) (c:=.ex 4) hk4
    obtain⟨v,hv,l0⟩:=at' k hk4
    have wk:=hr_k (k:=k) (by omega)
    by_cases hv0:v=0
    ·have d1:decide (v=0)=true:=decide_eq_true hv0
     simp only[S.zlj,d0,i0,zd,zk,l0,zm,d1,Bool.not_true,wk]
     refine Ev.some (.inl ⟨k+1,rfl,rfl,⟨hk4,rfl,fun i w hi hw => ?_⟩,by omega⟩)
     rcases Nat.lt_succ_iff_lt_or_eq.mp hi with r | r
     ·exact hz i w r hw
     ·subst r; rw[hv] at hw; cases hw; exact hv0
    ·have d1:decide (v=0)=false:=decide_eq_false hv0
     simp only[S.zlj,d0,i0,zd,zk,l0,zm,d1,Bool.not_false]
     refine Ev.some (.inr ⟨by simp,rfl,.inl ⟨rfl,?_⟩⟩)
     congr 2
     unfold orI
     have z:∀i w,i<k->[a,b,c,d][i]?=some w->w=0:=hz
     match k,hk4,hv,z with
     | 0,_,hv,z=>cases hv; rw[if_pos hv0]
     | 1,_,hv,z=>cases hv; rw[if_neg (not_not_intro (z 0 a (by decide) rfl)),if_pos hv0]
     | 2,_,hv,z=>cases hv; rw[if_neg (not_not_intro (z 0 a (by decide) rfl)),if_neg (not_not_intro (z 1 b (by decide) rfl)),if_pos hv0]
     | 3,_,hv,z=>cases hv; rw[if_neg (not_not_intro (z 0 a (by decide) rfl)),if_neg (not_not_intro (z 1 b (by decide) rfl)),if_neg (not_not_intro (z 2 c (by decide) rfl))]
   ·have d0:decide ((k:Int)<((4:Nat):Int))=false:=decide_eq_false (by omega)
    simp only[S.zlj,d0]
    refine Ev.some (.inr ⟨by simp,rfl,.inr ⟨rfl,rfl,?_⟩⟩)
    unfold orI
    rw[if_neg (not_not_intro (hz 0 a (by omega) rfl)),if_neg (not_not_intro (hz 1 b (by omega) rfl)),if_neg (not_not_intro (hz 2 c (by omega) rfl)),hz 3 d (by omega) rfl]
  rintro⟨_,_,g'⟩ ⟨rfl,(⟨rfl,rfl⟩ | ⟨rfl,rfl,hz⟩)⟩
  ·show Ev (S.zkc W .ret _ _) _
   rw[S.z04g]
   exact Ev.some rfl
  ·show Ev (S.zkc W (.exit 0) _ _) _
   rw[S.z03a,hz]
   exact Ev.some rfl
 obtain⟨r,e,rfl⟩:=e
 exact e
theorem z0no (k:Go.IntKind) (n:Int):ckB (some (.int k n)) (.int k n)=true:=by simp[ckB,V.beq]
theorem z0nk (e:Evt):ckB (some (.agg e.cs)) (.agg e.cs)=true:=by unfold Evt.cs; simp[ckB,V.beq,V.beqs]
theorem z0oe (b o n:Nat) (c:Cap):ckB (some (.sl b o n c)) (.sl b o n c)=true:=by simp[ckB,V.beq]
theorem z0of (a b c d:Int):fill (repl [(.int .i64 0)] 4) [] [(0,1,.c (.int .i64 a)),(1,1,.c (.int .i64 b)),(2,1,.c (.int .i64 c)),(3,1,.c (.int .i64 d))]=some [.int .i64 a,.int .i64 b,.int .i64 c,.int .i64 d]:=rfl
theorem z0f9 {g:H} (ok:g.ok) {bx:Nat}{x0:V}{l:List Evt} (hb:g.get bx=some (.cells [x0] .rw)) (h1:x0.one=true) (hx:RowE g.get x0 l) {i j:Nat}{x y:Evt} (hi:l[i]?=some x) (hj:l[j]?=some y) :
  Ev (C 336 [.int .i64 (i:Int),.int .i64 (j:Int),.ptr bx 0] g) fun r=>r.1=.int .i64 (ordI x y)/\Fr [] g r.2:=by
 refine z0e (af:=F.zeu) (by kernel_rfl) rfl ?_
 rw[S.z09c]
 have l0:g.ld1 (.ptr bx 0)=some x0:=z26 hb rfl h1
 obtain⟨eb,i1,i2,_⟩:=hx.at hi
 obtain⟨fb,j1,j2,_⟩:=hx.at hj
 have i2':g.ldN 14 (.ptr eb (i * 14))=some (.agg x.cs):=by rw[z34]; exact i2
 have j2':g.ldN 14 (.ptr fb (j * 14))=some (.agg y.cs):=by rw[z34]; exact j2
 obtain⟨g7,hg7⟩:∃g7,g7=(g.new (.cells zE .rw)).new (.cells zE .rw):=⟨_,rfl⟩
 have n6:(g.new (.cells zE .rw)).next=g.next+1:=rfl
 have F7:Fr [] g g7:=by rw[hg7]; exact((Fr.refl ok).new _).new _
 have a7:g7.get g.next=some (.cells zE .rw):=by rw[hg7,z0z (by rw[n6]; omega)]; exact ze _ _
 have b7:g7.get (g.next+1)=some (.cells zE .rw):=by rw[hg7]; exact ze _ _
 have s8:=z0dn (n:=14) (vs:=x.cs) a7 rfl rfl (zz4 x)
 obtain⟨g8,hg8⟩:∃g8,g8=g7.put g.next (some (.cells x.cs .rw)):=⟨_,rfl⟩
 rw[<-hg8] at s8
 have F8:Fr [] g g8:=by rw[hg8]; exact F7.put (.inr (Nat.le_refl _)) (F7.ok.lt a7) _
 have b8:g8.get (g.next+1)=some (.cells zE .rw):=by rw[hg8,zf (by omega)]; exact b7
 have a8:g8.get g.next=some (.cells x.cs .rw):=by rw[hg8]; exact zq _ _ _
 have s9:=z0dn (n:=14) (vs:=y.cs) b8 rfl rfl (zz4 y)
 obtain⟨g9,hg9⟩:∃g9,g9=g8.put (g.next+1) (some (.cells y.cs .rw)):=⟨_,rfl⟩
 rw[<-hg9] at s9
 have F9:Fr [] g g9:=by rw[hg9]; exact F8.put (.inr (by omega)) (F8.ok.lt b8) _
 have b9:g9.get (g.next+1)=some (.cells y.cs .rw):=by rw[hg9]; exact zq _ _ _
 have a9:g9.get g.next=some (.cells x.cs .rw):=by rw[hg9,zf (by omega)]; exact a8
 clear hg9 hg8 a8 b8 a7 b7
 have l8:g8.ld1 (.ptr bx 0)=some x0:=z26 (F8.get ok hb (by simp)) rfl h1
 obtain⟨fb',k1,k2,_⟩:=(hx.fr ok F8 (by simp)).at hj
 rw[j1] at k1; cases k1
 have k2':g8.ldN 14 (.ptr fb (j * 14))=some (.agg y.cs):=by rw[z34]; exact k2
 have kx:ckB (some x0) x0=true:=by
  obtain⟨rfl,_⟩ | ⟨b,c,k,rfl,_⟩:=hx
  ·rfl
  ·exact z0oe _ _ _ _
 have x0':g9.ld1 (.ptr g.next 0)=some (.int .i64 x.client):=z26 a9 rfl rfl
 have x1':g9.ld1 (.ptr g.next 1)=some (.int .i64 x.op):=z26 a9 rfl rfl
 have x3':g9.ld1 (.ptr g.next 3)=some (.int .i64 x.point):=z26 a9 rfl rfl
 have y0':g9.ld1 (.ptr (g.next+1) 0)=some (.int .i64 y.client):=z26 b9 rfl rfl
 have y1':g9.ld1 (.ptr (g.next+1) 1)=some (.int .i64 y.op):=z26 b9 rfl rfl
 have y3':g9.ld1 (.ptr (g.next+1) 3)=some (.int .i64 y.point):=z26 b9 rfl rfl
 have xa:=z002 (n:=14) a9 rfl
 have ya:=z002 (n:=14) b9 rfl
 have e1:=fun a b=>z0ex a b g9
 have e2:=fun e=>z0f1 e g9
 have e3:=fun a b c d=>z0mu (g:=g9.new (.cells [.int .i64 a,.int .i64 b,.int .i64 c,.int .i64 d] .rw)) (q:=g9.next) (a:=a) (b:=b) (c:=c) (d:=d) (ze _ _)
 have hz:(g.new (.cells [(.int .i64 0),(.int .i64 0),(.int .i64 0),(.int .i64 0),(.int .i64 0),(.bool false),(.int .i64 0),(.int .i64 0),(.int .u64 0),(.int .u64 0),(.int .u64 0),(.int .i64 0),(.int .u64 0),(.bool false)] .rw)).new (.cells [(.int .i64 0),(.int .i64 0),(.int .i64 0),(.int .i64 0),(.int .i64 0),(.bool false),(.int .i64 0),(.int .i64 0),(.int .u64 0),(.int .u64 0),(.int .u64 0),(.int .i64 0),(.int .u64 0),(.bool false)] .rw)=g7:=hg7.symm
 have hn:(g.new (.cells [(.int .i64 0),(.int .i64 0),(.int .i64 0),(.int .i64 0),(.int .i64 0),(.bool false),(.int .i64 0),(.int .i64 0),(.int .u64 0),(.int .u64 0),(.int .u64 0),(.int .i64 0),(.int .u64 0),(.bool false)] .rw)).next=g.next+1:=n6
 simp only[S.zeu,l0,zd,i1,i2',j1,j2',hz,hn,s8,k2',z0nk,l8,kx,s9,x0',x1',x3',y0',y1',y3',xa,ya,z02,e1,z0no,e2,z0of,e3]
 exact Ev.some ⟨rfl,F9.new _⟩
theorem z0jm (x y:Evt) (h:H):C 339 [.agg x.cs,.agg y.cs] h=some (.bool (zxn x y),h):=by
 refine za7 (af:=F.z5c) (by kernel_rfl) rfl (by rfl) (by rfl) h ?_
 unfold Evt.cs zxn
 rw[S.z06e]
 have h0:H.empty.next=0:=rfl
 by_cases h1:x.point=y.point
 ·rw[if_pos h1]
  by_cases h2:x.behind=y.behind
  ·rw[if_pos h2]
   have e2:(x.behind == y.behind)=true:=by rw[h2]; exact BEq.rfl
   by_cases h3:x.client=y.client
   ·rw[if_pos h3]
    simp only[S.z5c,zt_,V.one,reduceCtorEq,eqV,h0,decide_eq_true h1,e2,decide_eq_true h3]
    exact Ev.some rfl
   ·rw[if_neg h3]
    simp only[S.z5c,zt_,V.one,reduceCtorEq,eqV,h0,decide_eq_true h1,e2,decide_eq_false h3]
    exact Ev.some rfl
  ·rw[if_neg h2]
   have e2:(x.behind == y.behind)=false:=by simpa using h2
   simp only[S.z5c,zt_,V.one,reduceCtorEq,eqV,h0,decide_eq_true h1,e2]
   exact Ev.some rfl
 ·rw[if_neg h1]
  simp only[S.z5c,zt_,V.one,reduceCtorEq,eqV,h0,decide_eq_false h1]
  exact Ev.some rfl
end Wm
end
