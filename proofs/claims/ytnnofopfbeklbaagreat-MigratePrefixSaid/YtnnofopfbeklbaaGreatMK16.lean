/- Merged texts. -/
import Derived.Test.YtnnofopfbeklbaaGreatMK15
import Derived.Test.YtnnofopfbeklbaaGreatMK12
import Derived.Test.YtnnofopfbeklbaaGreatMK14
import Derived.Test.YtnnofopfbeklbaaGreatMK02
import Derived.Test.YtnnofopfbeklbaaGreatMK03
import Derived.Test.YtnnofopfbeklbaaGreatMK11
import Derived.Test.YtnnofopfbeklbaaGreatMK08
import Derived.Test.YtnnofopfbeklbaaGreatMK10
import Derived.Test.YtnnofopfbeklbaaGreatMK09
import Derived.Laws.Bits64b
import Derived.Test.YtnnofopfbeklbaaGreatMK04
import Derived.WalkLawsBesides
import Derived.Recover
import Derived.Defers
import Derived.Test.YtnnofopfbeklbaaGreatMK07
import Derived.Shelf.SlSortCmp.NoneTotal
import Derived.Shelf.SlicesQ.IndexFunc
import Derived.Shelf.SlicesE.Clone
import Derived.Ground.SlsfProg
import Derived.Ground.SlgfProg
import Derived.Ground.SlgnProg
import Derived.Shelf.SlGeneric
import Derived.Test.YtnnofopfbeklbaaGreatProg
set_option linter.unusedVariables false
set_option linter.unusedSimpArgs false
set_option maxHeartbeats 8000000
set_option maxRecDepth 100000
section
namespace Go.Proofs.YtnnofopfbeklbaaGreat.CodecP
open Go.RowKit Go.Proofs.YtnnofopfbeklbaaGreat.C Go.Proofs.YtnnofopfbeklbaaGreatW.PrintWords Go.Proofs.YtnnofopfbeklbaaGreatW.PrintLast Go.Proofs.YtnnofopfbeklbaaGreatW.PrintMore
theorem Qxl:∀(n:Nat) (b:List Int),b.length≤n→b.length<254→(Qmd b).length=b.length+1
 | n,b,hn,h=>by
  rcases Int.lt_or_le (ixOf (b.take 254) 0) 0 with h0|h0
  ·rw[Qmi h0 (by omega)];simp
  ·obtain⟨p,hp⟩:=Int.eq_ofNat_of_zero_le h0;have h1:=(Qmb (b.take 254) 0).2;rw[List.length_take,hp]at h1;rw[Qmg hp]
   match n,hn with
   | 0,hn=>omega
   | n+1,hn =>
    have ih:=Qxl n (b.drop (p+1)) qq_19 qq_19;rw[List.length_cons,List.length_append,ih,List.length_take,List.length_drop];omega
theorem Qxm:∀(n:Nat) (x y:Int),0≤x→x≤y→(vput n x).length≤(vput n y).length
 | 0,_,_,_,_=>by simp[vput]
 | n+1,x,y,h0,h=>by
  have ih:=Qxm n (x/128) (y/128) (by omega) (by omega);unfold vput
  by_cases hy:y<128
  ·rw[if_pos hy,if_pos (by omega)];simp
  ·rw[if_neg hy]
   by_cases hx:x<128
   ·rw[if_pos hx];simp
   ·rw[if_neg hx];simp;omega
def Qxn(e s n:Int):Int:=((Qrb e s n).length:Int)
theorem Qxo(e s n:Int):Qxn e s n=3+(vput 9 s).length+(vput 9 n).length+10:=by
 unfold Qxn Qrb Qqw;have h1:=Qml 9 s;have h2:=Qml 9 n;have hl:([1,2,e]++vput 9 s++vput 9 n++leb (Qnm 0 ([1,2,e]++vput 9 s++vput 9 n)) 8).length=3+(vput 9 s).length+(vput 9 n).length+8:=by
  rw[List.length_append,List.length_append,List.length_append,Qld];rfl
 rw[List.length_append,Qxl _ _ (Nat.le_refl _) (by rw[hl];omega),hl];simp;omega
theorem Qxp(e s n:Int):0≤Qxn e s n∧Qxn e s n≤100:=by
 rw[Qxo];have h1:=Qml 9 s;have h2:=Qml 9 n;omega
theorem Qxq(e s:Int){n m:Int}(h0:0≤n)(h:n≤m):Qxn e s n≤Qxn e s m:=by
 rw[Qxo,Qxo];have:=Qxm 9 n m h0 h;omega
def Qxr(n:Int):Int:=9+12*n+8*((n+15)/16)+8+1+(9+12*n+8*((n+15)/16)+8-1)/254+1
def szN(e:Int):Int:=2^e.toNat
def Good(e s:Int):Prop:=12≤e∧e≤24∧1≤s∧s≤65536
theorem Qxs{e s:Int}(h:Good e s):Qal.f e s=some 0:=by
 obtain⟨h1,h2,h3,h4⟩:=h;unfold Qal.f;rw[if_neg (by omega),if_neg (by omega),if_neg (by omega),if_neg (by omega)]
theorem Qxt{e s:Int}(h:¬Good e s):Qal.f e s=some 1:=by
 unfold Qal.f
 by_cases h1:e<12
 ·rw[if_pos h1]
 by_cases h2:e > 24
 ·rw[if_neg h1,if_pos h2]
 by_cases h3:s<1
 ·rw[if_neg h1,if_neg h2,if_pos h3]
 by_cases h4:s > 65536
 ·rw[if_neg h1,if_neg h2,if_neg h3,if_pos h4]
 ·exact absurd ⟨by omega,by omega,by omega,by omega⟩ h
theorem Qxu{e s:Int}(h:Good e s):Qbl.f e s=some true:=by
 obtain⟨h1,h2,h3,h4⟩:=h;unfold Qbl.f;rw[if_pos (by omega),if_pos (by omega),if_pos (by omega)];simp[h4]
theorem may_bad{e s:Int}(h:¬Good e s):Qbl.f e s=some false:=by
 unfold Qbl.f
 by_cases h1:e≥12
 ·rw[if_pos h1]
  by_cases h2:e≤24
  ·rw[if_pos h2]
   by_cases h3:s≥1
   ·rw[if_pos h3];have h4:¬s≤65536:=fun h4=>h ⟨h1,h2,h3,h4⟩
    simp[h4]
   ·rw[if_neg h3]
  ·rw[if_neg h2]
 ·rw[if_neg h1]
theorem Qxv{e:Int}(h1:12≤e)(h2:e≤24):4096≤szN e∧szN e≤16777216:=by
 unfold szN;obtain⟨n,rfl⟩:=Int.eq_ofNat_of_zero_le (show 0≤e by omega);rw[Int.toNat_natCast];have h3:(2:Nat)^12≤2^n:=Nat.pow_le_pow_right (by omega) (by omega);have h4:(2:Nat)^n≤2^24:=Nat.pow_le_pow_right (by omega) (by omega);have h5:((2^n:Nat):Int)=(2:Int)^n:=by rw[Int.natCast_pow];rfl
 rw[← h5];omega
theorem Qxw{e s:Int}(h:Good e s):Qam.f e s=some (szN e):=by
 have hr:=Qxv h.1 h.2.1;unfold Qam.f;rw[Qxs h,Option.bind_some,if_pos rfl,if_pos (by have:=h.1;omega)]
 congr 1
 unfold shl;have hm:min e.toNat IntKind.i64.bits=e.toNat:=by simp[IntKind.bits];have:=h.2.1;omega
 rw[hm,Int.one_mul];exact IntWalk.i64_in _ (by unfold szN at hr;omega)
theorem Qxx:∀(d i k:Nat) (e:Int),(i:Int)+d=e→e≤24→d+1≤k→Qbm.l0 k (2^i) e (i:Int)=some (szN e)
 | 0,i,k,e,h,he,hk=>by
  obtain⟨k,rfl⟩:∃m,k=m+1:=⟨k-1,by omega⟩;unfold Qbm.l0;rw[if_neg (by omega)];unfold szN;rw[show e.toNat=i by omega]
 | d+1,i,k,e,h,he,hk=>by
  obtain⟨k,rfl⟩:∃m,k=m+1:=⟨k-1,by omega⟩;have ih:=Qxx d (i+1) k e (by omega) he (by omega);have hp:(2:Nat)^i≤2^24:=Nat.pow_le_pow_right (by omega) (by omega);have hp0:=Nat.two_pow_pos i;have h5:((2^i:Nat):Int)=(2:Int)^i:=by rw[Int.natCast_pow];rfl
  unfold Qbm.l0;rw[if_pos (by omega),← h5,IntWalk.u64_in _ (by omega),show(((i:Nat):Int)+1)%256=((i+1:Nat):Int)by omega,h5,show 2*(2:Int)^i=2^(i+1)by rw[Int.pow_succ];omega];exact ih
theorem Qxy{e s:Int}(h:Good e s)(k:Nat)(hk:30≤k):Qbm.f k e s=some (szN e):=by
 have:=Qxx e.toNat 0 k e (by have:=h.1;omega) h.2.1 (by have:=h.2.1;omega);exact this
theorem Qxz(c:Int)(h0:0≤c)(h1:c≤16777216):Qco.f c=some (Qxr c):=by
 have hm:mx 0 c=c:=by unfold mx;split<;>omega
 have hf:Qcn.f c=some ((c+15)/16):=by
  unfold Qcn.f;rw[hm];have e1:wrap64 ((wrap64 (c+16))-1)=c+15:=by unfold wrap64;omega
  rw[e1,Int.tdiv_eq_ediv_of_nonneg (by omega)]
  congr 1
  unfold wrap64;omega
 have ha:wrap64 ((wrap64 (9+(wrap64 (12*c))))+(wrap64 (8*((c+15)/16))))=9+12*c+8*((c+15)/16):=by unfold wrap64;omega
 unfold Qco.f;rw[hm,hf,Option.bind_some,ha];obtain⟨m,hmm⟩:∃m,m=9+12*c+8*((c+15)/16):=⟨_,rfl⟩;have hm0:0≤m:=by omega
 have hm1:m≤1000000000:=by omega
 unfold Qxr;rw[← hmm];clear hmm ha hf hm;have hx:mx 0 m=m:=by unfold mx;split<;>omega
 unfold Qcs.f Qak.f;rw[hx];have e1:wrap64 (m+8)=m+8:=by unfold wrap64;omega
 rw[e1,if_neg (by omega)];have e2:wrap64 (m+8-1)=m+8-1:=by unfold wrap64;omega
 rw[e2,Int.tdiv_eq_ediv_of_nonneg (by omega),Option.bind_some,Option.bind_some]
 congr 1
 unfold wrap64;omega
theorem Qya(c:Int)(h0:0≤c)(h1:c≤16777216):Qbz.f c=some (Qxr c):=by
 have e0:wrap64 (Int.tdiv (wrap64 (c+15)) 16)=(c+15)/16:=by
  have e1:wrap64 (c+15)=c+15:=by unfold wrap64;omega
  rw[e1,Int.tdiv_eq_ediv_of_nonneg (by omega)];unfold wrap64;omega
 have ha:wrap64 ((wrap64 ((wrap64 (9+(wrap64 (12*c))))+(wrap64 (8*((c+15)/16)))))+8)=9+12*c+8*((c+15)/16)+8:=by unfold wrap64;omega
 unfold Qbz.f Qxr;rw[e0,ha];obtain⟨m,hmm⟩:∃m,m=9+12*c+8*((c+15)/16)+8:=⟨_,rfl⟩;have hm0:8≤m:=by omega
 have hm1:m≤1000000000:=by omega
 rw[← hmm];clear hmm ha e0;have e2:wrap64 (m-1)=m-1:=by unfold wrap64;omega
 rw[e2,Int.tdiv_eq_ediv_of_nonneg (by omega)]
 congr 1
 unfold wrap64;omega
theorem Qyb(c:Int)(h0:0≤c)(h1:c≤16777216):12*c≤Qxr c∧Qxr c≤1000000000:=by unfold Qxr;omega
def Qyc(e u c x:Int):Bool:=decide (1≤x∧u+x+Qxr (c+1)≤szN e)
theorem Qyd{e s:Int}(h:Good e s)(n u c x:Int)(hu0:0≤u)(hu1:u≤16777216)(hc0:0≤c)(hc1:c≤8388608)(hx1:x≤1152921504606846976):Qdb.f e s n u c x=some (Qyc e u c x):=by
 have hz:=Qxv h.1 h.2.1;have hm:=Qyb (c+1) (by omega) (by omega);unfold Qdb.f Qyc
 by_cases hx:x≥1
 ·rw[if_pos hx];unfold Qdc.f;rw[Qxw h,Option.bind_some,show wrap64 (c+1)=c+1 by unfold wrap64;omega,Qxz (c+1) (by omega) (by omega),Option.bind_some,Option.bind_some]
  congr 1
  have e1:wrap64 (wrap64 (szN e-u)-Qxr (c+1))=szN e-u-Qxr (c+1):=by unfold wrap64;omega
  rw[e1];unfold mx;rw[decide_eq_decide];split<;>omega
 ·rw[if_neg hx]
  congr 1
  symm
  rw[decide_eq_false_iff_not];omega
theorem Qye{e s:Int}(h:Good e s)(k:Nat)(n u c x:Int)(hk:40≤k)(hu0:0≤u)(hu1:u≤16777216)(hc0:0≤c)(hc1:c≤8388608)(hx1:x≤1152921504606846976):Qcc.f k e s n u c x=some (Qyc e u c x):=by
 obtain⟨k,rfl⟩:∃m,k=m+1:=⟨k-1,by omega⟩;have hz:=Qxv h.1 h.2.1;have hm:=Qyb (c+1) (by omega) (by omega);have hj:∀b,Qcc.j0 (k+1) x b e s n u c=if b=true then some false else(Qbz.f (wrap64 (c+1))).bind fun t=>(Qbm.f k e s).bind fun z=>some (decide ((IntKind.u64.wrap (wrap64 ((wrap64 (u+x))+t)))≤z)):=fun _=>rfl
 unfold Qcc.f Qyc
 by_cases hx:x<1
 ·rw[if_pos hx,hj,if_pos rfl]
  congr 1
  symm
  rw[decide_eq_false_iff_not];omega
 ·rw[if_neg hx,Qxy h (k+1) (by omega),Option.bind_some,hj];rw[show IntKind.u64.wrap x=x from IntWalk.u64_in _ (by omega)]
  by_cases hb:x > szN e
  ·rw[if_pos (by simpa using hb)]
   congr 1
   symm
   rw[decide_eq_false_iff_not];omega
  ·rw[if_neg (by simpa using hb),show wrap64 (c+1)=c+1 by unfold wrap64;omega,Qya (c+1) (by omega) (by omega),Option.bind_some,Qxy h k (by omega),Option.bind_some]
   congr 1
   have e1:wrap64 (wrap64 (u+x)+Qxr (c+1))=u+x+Qxr (c+1):=by unfold wrap64;omega
   rw[e1,IntWalk.u64_in _ (by omega),decide_eq_decide];omega
theorem Qyf{e u c x:Int}(h:Qyc e u c x=true):1≤x∧u+x+Qxr (c+1)≤szN e:=by simpa [Qyc]using h
theorem Qyg{e s:Int}(h:Good e s)(n u c x:Int)(hu0:0≤u)(hu1:u≤16777216)(hc0:0≤c)(hc1:c≤8388608)(hx1:x≤1152921504606846976)(hf:Qyc e u c x=true):Qdd.f e s n u c x=some (e,s,n,u+x,c+1,0):=by
 have hz:=Qxv h.1 h.2.1;have hm:=Qyb (c+1) (by omega) (by omega);obtain⟨f1,f2⟩:=Qyf hf;unfold Qdd.f;rw[Qyd h n u c x hu0 hu1 hc0 hc1 hx1,Option.bind_some,hf,if_pos rfl,show wrap64 (u+x)=u+x by unfold wrap64;omega,show wrap64 (c+1)=c+1 by unfold wrap64;omega]
theorem Qyh(e s n u c x:Int)(hu0:0≤u)(hu1:u≤16777216)(hc0:0≤c)(hc1:c≤8388608)(hx0:0≤x)(hx1:x≤16777216):Qce.f e s n u c x=some (e,s,n,u+x,c+1):=by
 unfold Qce.f;rw[show wrap64 (u+x)=u+x by unfold wrap64;omega,show wrap64 (c+1)=c+1 by unfold wrap64;omega]
theorem Qyi{e s:Int}(h:Good e s)(n:Int)(h0:0≤n)(h1:n<s):Qcp.f e s n=some (Qrb e s n,0):=by
 obtain⟨a,b,c,d⟩:=h;unfold Qcp.f Qct.f;rw[Qxs ⟨a,b,c,d⟩,Option.bind_some,if_pos rfl,if_neg (by omega),Option.bind_some,if_pos rfl,if_pos ⟨by omega,by omega,by omega,by omega,by omega,by omega⟩]
theorem Qyj{e s:Int}(h:Good e s)(n:Int)(h0:0≤n)(h1:n<s):Qcz.f e s n=some (e,s,n,Qxn e s n,0,0):=by
 unfold Qcz.f;rw[Qyi h n h0 h1,Option.bind_some,if_pos rfl];rfl
theorem Qyk{e s:Int}(h:Good e s)(n:Int)(h1:s≤n):Qcz.f e s n=some (0,0,0,0,0,1):=by
 unfold Qcz.f Qcp.f Qct.f;rw[Qxs h,Option.bind_some,if_pos rfl,if_pos (by omega),Option.bind_some,if_neg (by decide),Option.bind_some,if_neg (by decide)]
theorem Qyl{e s:Int}(h:Good e s)(k:Nat)(n:Int)(h0:0≤n)(h1:n<s)(hk:300≤k):Qcb.f k e s n=some (e,s,n,Qxn e s n,0):=by
 obtain⟨a,b,c,d⟩:=h;obtain⟨t,ht,hb⟩:=Qxk k e s n (by omega) (by omega) (by omega) (by omega) h0 (by omega) hk;unfold Qcb.f;rw[ht,Option.bind_some,Qos,hb];rfl
def Qym(e s:Int):List Int→List Int→Int→Int→Int→List Int × Int
 | [],out,_,_,_=>(out,0)
 | x :: t,out,n,u,c =>
  if Qyc e (Qxn e s (s-1)) 0 x=false then([],6)
  else if Qyc e u c x=true then Qym e s t (out++[n]) n (u+x) (c+1)
  else if n+1<s then Qym e s t (out++[n+1]) (n+1) (Qxn e s (n+1)+x) 1
  else([],7)
theorem Qyn{e s:Int}(h:Good e s){n x:Int}(h0:0≤n)(h1:n≤s-1)(hf:Qyc e (Qxn e s (s-1)) 0 x=true):Qyc e (Qxn e s n) 0 x=true:=by
 obtain⟨f1,f2⟩:=Qyf hf;have:=Qxq e s h0 h1;simp only[Qyc,decide_eq_true_eq];omega
theorem Qyo{l:List Int}{i:Nat}(h:i<l.length):l.drop i=rd l (i:Int) :: l.drop (i+1):=by rw[List.drop_eq_getElem_cons h,Qoo h]
theorem Qyp{e s:Int}(h:Good e s){u c x:Int}(hc0:0≤c)(hc1:c≤8388608)(hu0:0≤u)(hf:Qyc e u c x=true):0≤u+x∧u+x≤16777216∧0≤c+1∧c+1≤8388608:=by
 have hz:=Qxv h.1 h.2.1;have hm:=Qyb (c+1) (by omega) (by omega);obtain⟨f1,f2⟩:=Qyf hf;omega
theorem Qyq{e s:Int}(h:Good e s)(l:List Int)(hl:l.length≤1000000)(hx:∀x∈l,x≤1152921504606846976):∀(d i k:Nat) (out:List Int) (n u c:Int),i+d=l.length→out.length=i→0≤n→n<s→0≤u→u≤16777216→0≤c→c≤8388608→d+1≤k →
  Qda.l0 k out l (l.length:Int) (i:Int) e s e s n u c e s (s-1) (Qxn e s (s-1)) 0=some (Qym e s (l.drop i) out n u c)
 | 0,i,k,out,n,u,c,hi,ho,hn0,hn1,hu0,hu1,hc0,hc1,hk=>by
  obtain⟨k,rfl⟩:∃m,k=m+1:=⟨k-1,by omega⟩;rw[List.drop_of_length_le (by omega)];unfold Qda.l0;rw[if_neg (by omega)];rfl
 | d + 1,i,k,out,n,u,c,hi,ho,hn0,hn1,hu0,hu1,hc0,hc1,hk=>by
  obtain⟨k,rfl⟩:∃m,k=m+1:=⟨k-1,by omega⟩;have hg:=h;obtain⟨a1,a2,a3,a4⟩:=h;have hil:i<l.length:=by omega
  have hxi:rd l (i:Int)≤1152921504606846976:=by rw[Qoo hil];exact hx _ (List.getElem_mem hil)
  have hH:=Qxp e s (s-1);rw[Qyo hil];unfold Qda.l0;rw[if_pos (by omega),if_pos (by omega),if_pos (by omega),Qwz i (by omega)];generalize hxx:rd l (i:Int)=x at *;rw[Qyd hg (s-1) (Qxn e s (s-1)) 0 x hH.1 (by omega) (by omega) (by omega) hxi,Option.bind_some];unfold Qym
  by_cases hf:Qyc e (Qxn e s (s-1)) 0 x=false
  ·rw[hf,if_neg (by decide),if_pos rfl]
  ·have hft:Qyc e (Qxn e s (s-1)) 0 x=true:=by simpa using hf
   rw[if_neg hf,if_pos hft,Qyd hg n u c x hu0 hu1 hc0 hc1 hxi,Option.bind_some]
   by_cases hq:Qyc e u c x=true
   ·have haf:=Qyp hg hc0 hc1 hu0 hq;rw[if_pos hq,if_pos hq,Qyg hg n u c x hu0 hu1 hc0 hc1 hxi hq,Option.bind_some,if_pos (by omega)];exact Qyq hg l hl hx d (i+1) k (out++[n]) n (u+x) (c+1) (by omega) (by rw[List.length_append,ho];rfl) hn0 hn1 haf.1 haf.2.1 haf.2.2.1 haf.2.2.2 (by omega)
   ·rw[if_neg hq,if_neg hq,show(n+1)%4294967296=n+1 by omega]
    by_cases hs:n+1<s
    ·have hfn:=Qyn hg (show 0≤n+1 by omega) (by omega) hft;have hHn:=Qxp e s (n+1);have haf:=Qyp hg (Int.le_refl 0) (by omega) hHn.1 hfn;rw[if_pos hs,Qyj hg (n+1) (by omega) hs,Option.bind_some,if_pos rfl,Qyg hg (n+1) (Qxn e s (n+1)) 0 x hHn.1 (by omega) (by omega) (by omega) hxi hfn,Option.bind_some,if_pos (by omega)];exact Qyq hg l hl hx d (i+1) k (out++[n+1]) (n+1) (Qxn e s (n+1)+x) 1 (by omega) (by rw[List.length_append,ho];rfl) (by omega) hs haf.1 haf.2.1 (by omega) (by omega) (by omega)
    ·rw[if_neg hs,Qyk hg (n+1) (by omega),Option.bind_some,if_neg (by decide)]
theorem Qyr{e s:Int}(h:Good e s)(l:List Int)(k:Nat)(hl:l.length≤1000000)(hx:∀x∈l,x≤1152921504606846976)(hk:l.length+1≤k):Qda.f k e s l=some (Qym e s l [] 0 (Qxn e s 0) 0):=by
 have hg:=h;obtain⟨a1,a2,a3,a4⟩:=h;have hH:=Qxp e s 0;unfold Qda.f;rw[Qyj hg 0 (by omega) (by omega),Option.bind_some,if_pos rfl,show(s-1)%4294967296=s-1 by omega,Qyj hg (s-1) (by omega) (by omega),Option.bind_some];exact Qyq hg l hl hx l.length 0 k [] 0 (Qxn e s 0) 0 (by omega) rfl (by omega) (by omega) hH.1 (by omega) (by omega) (by omega) hk
theorem Qys{e s:Int}(h:Good e s)(l:List Int)(hl:l.length≤1000000)(hx:∀x∈l,x≤1152921504606846976):∀(d i k:Nat) (out:List Int) (n u c:Int),i+d=l.length→out.length=i→0≤n→n<s→0≤u→u≤16777216→0≤c→c≤8388608→d+400≤k →
  Qcd.l0 k out l (l.length:Int) (i:Int) e s e s n u c e s (s-1) (Qxn e s (s-1)) 0=some (Qym e s (l.drop i) out n u c)
 | 0,i,k,out,n,u,c,hi,ho,hn0,hn1,hu0,hu1,hc0,hc1,hk=>by
  obtain⟨k,rfl⟩:∃m,k=m+1:=⟨k-1,by omega⟩;rw[List.drop_of_length_le (by omega)];unfold Qcd.l0;rw[if_neg (by omega)];rfl
 | d + 1,i,k,out,n,u,c,hi,ho,hn0,hn1,hu0,hu1,hc0,hc1,hk=>by
  obtain⟨k,rfl⟩:∃m,k=m+1:=⟨k-1,by omega⟩;have hg:=h;obtain⟨a1,a2,a3,a4⟩:=h;have hil:i<l.length:=by omega
  have hxi:rd l (i:Int)≤1152921504606846976:=by rw[Qoo hil];exact hx _ (List.getElem_mem hil)
  have hH:=Qxp e s (s-1);have hz:=Qxv a1 a2;rw[Qyo hil];unfold Qcd.l0;rw[if_pos (by omega),if_pos (by omega),if_pos (by omega),Qwz i (by omega)];generalize hxx:rd l (i:Int)=x at *;rw[Qye hg k (s-1) (Qxn e s (s-1)) 0 x (by omega) hH.1 (by omega) (by omega) (by omega) hxi,Option.bind_some];unfold Qym
  by_cases hf:Qyc e (Qxn e s (s-1)) 0 x=false
  ·rw[hf,if_neg (by decide),if_pos rfl]
  ·have hft:Qyc e (Qxn e s (s-1)) 0 x=true:=by simpa using hf
   have a:0≤x∧x≤16777216:=by
    have h1:=Qyf hft;have h2:=Qyb (0+1) (by omega) (by omega);omega
   rw[if_neg hf,if_pos hft,Qye hg k n u c x (by omega) hu0 hu1 hc0 hc1 hxi,Option.bind_some]
   by_cases hq:Qyc e u c x=true
   ·have haf:=Qyp hg hc0 hc1 hu0 hq;rw[if_pos hq,if_pos hq,Qyh e s n u c x hu0 hu1 hc0 hc1 a.1 a.2,Option.bind_some,if_pos (by omega)];exact Qys hg l hl hx d (i+1) k (out++[n]) n (u+x) (c+1) (by omega) (by rw[List.length_append,ho];rfl) hn0 hn1 haf.1 haf.2.1 haf.2.2.1 haf.2.2.2 (by omega)
   ·rw[if_neg hq,if_neg hq,IntWalk.u64_in (n+1) (by omega),IntWalk.u64_in s (by omega)]
    by_cases hs:n+1<s
    ·have hfn:=Qyn hg (show 0≤n+1 by omega) (by omega) hft;have hHn:=Qxp e s (n+1);have haf:=Qyp hg (Int.le_refl 0) (by omega) hHn.1 hfn;rw[if_pos hs,if_neg (by omega),Qyl hg k (n+1) (by omega) hs (by omega),Option.bind_some,Qyh e s (n+1) (Qxn e s (n+1)) 0 x hHn.1 (by omega) (by omega) (by omega) a.1 a.2,Option.bind_some,if_pos (by omega)];exact Qys hg l hl hx d (i+1) k (out++[n+1]) (n+1) (Qxn e s (n+1)+x) 1 (by omega) (by rw[List.length_append,ho];rfl) (by omega) hs haf.1 haf.2.1 (by omega) (by omega) (by omega)
    ·rw[if_neg hs,if_pos (by omega)]
theorem Qyt{e s:Int}(h:Good e s)(l:List Int)(k:Nat)(hl:l.length≤1000000)(hx:∀x∈l,x≤1152921504606846976)(hk:l.length+400≤k):Qcd.f k e s l=some (Qym e s l [] 0 (Qxn e s 0) 0):=by
 have hg:=h;obtain⟨a1,a2,a3,a4⟩:=h;have hH:=Qxp e s 0;unfold Qcd.f;rw[Qxu hg,Option.bind_some,if_pos rfl,Qyl hg k 0 (by omega) (by omega) (by omega),Option.bind_some,IntWalk.u64_in s (by omega),IntWalk.u64_in (s-1) (by omega),Qyl hg k (s-1) (by omega) (by omega) (by omega),Option.bind_some];exact Qys hg l hl hx l.length 0 k [] 0 (Qxn e s 0) 0 (by omega) rfl (by omega) (by omega) hH.1 (by omega) (by omega) (by omega) hk
end Go.Proofs.YtnnofopfbeklbaaGreat.CodecP
end
section
namespace Go.Proofs.YtnnofopfbeklbaaGreat.C
open Go.RowKit Go.Proofs.YtnnofopfbeklbaaGreatW.PrintWords Go.Proofs.YtnnofopfbeklbaaGreatW.PrintLast Go.Proofs.YtnnofopfbeklbaaGreatW.PrintMore
abbrev Room5:=Int × Int × Int × Int × Int
def IsBd(W:World)(b g:Nat)(R:Room5)(fr:List Int)(tb:List S117):Prop :=
 ∃fv tv,W.heap[g]? = some (.cells #[.int .u8 R.1,.int .u32 R.2.1,.int .u32 R.2.2.1,.int .i64 R.2.2.2.1,.int .i64 R.2.2.2.2,fv,tv] 108 (0,0))∧R8 W b fv fr∧Kd.R k117 117 W b (fun _=>True) tv tb
theorem IsBd.kept{W W':World}{b g:Nat}{R:Room5}{fr:List Int}{tb:List S117}(h:IsBd W b g R fr tb)(hb:Below W.heap.size W W'):IsBd W' b g R fr tb:=by
 obtain⟨fv,tv,h1,h2,h3⟩:=h;exact⟨fv,tv,Qfe h1 hb,h2.kept hb,Kd.R_below h3 hb⟩
theorem room5{W:World}{B:Nat}{e s n u c:Int}(h:W.heap[B]? = some (.cells #[.int .u8 e,.int .u32 s,.int .u32 n,.int .i64 u,.int .i64 c] 47 (0,0))) :
  W.cell? ⟨B,0,none⟩=some (.int .u8 e)∧W.cell? ⟨B,1,none⟩=some (.int .u32 s)∧W.cell? ⟨B,2,none⟩=some (.int .u32 n)∧W.cell? ⟨B,3,none⟩=some (.int .i64 u)∧W.cell? ⟨B,4,none⟩=some (.int .i64 c) :=
 ⟨(Qep h 0).trans rfl,(Qep h 1).trans rfl,(Qep h 2).trans rfl,(Qep h 3).trans rfl,(Qep h 4).trans rfl⟩
theorem Qri(e s n u c:Int)(hd:List Int)(w:World)(hp:Qcz.f e s n=some (e,s,n,u,c,0))(hh:Qcp.f e s n=some (hd,0)) :
  Calls Tryz.prog 18 #[.agg #[.int .u8 e,.int .u32 s],.int .u32 n] w fun ee w'=>∃g,ee=.returned (.tuple #[.pointer (some ⟨g,0,none⟩),.int .i64 0])∧IsBd w' w.heap.size g (e,s,n,u,c) hd []∧Below w.heap.size w w'∧w.heap.size≤g:=by
 have hu:=Tryz.underlying27;have hu2:=Tryz.underlying47;have hu3:=Tryz.underlying108;have HP:=QA hp;have HH:=QA hh;clear hp hh;have hba:Below w.heap.size w (w.alloc (.cells #[.int .u8 e,.int .u32 s] 27)):=Qdr (Below.refl _ _) _;have hbn:=Qff w (.cells #[.int .u8 e,.int .u32 s] 27)
 go_enter Tryz.func18,Tryz.ntmps18
 go_wp2_with (first
  |(go_at_call 52;refine(Qcz.calls e s n _ _ _ _ _ _ _ HP.out).mono ?_;rintro ee w1 ⟨rfl,hb1⟩;have hk1:=Qfe hbn hb1;have hw1:=QA (Qdu hba hba.size hb1);have hs1:=QA (show w.heap.size<w1.heap.size from Qeo hk1);have hk1':=Qfb hk1 (.cells #[.int .u8 e,.int .u32 s,.int .u32 n,.int .i64 u,.int .i64 c] 47);obtain⟨c0,c1⟩:=box2 hk1';clear hk1 hb1 hbn hba)
  |(go_at_call 53;refine(Qcp.calls e s n hd 0 _ HH.out).mono ?_;rintro ee w3 ⟨v3,rfl,hR3,hb3⟩;have hk3:=Qfe (Qff w1 (.cells #[.int .u8 e,.int .u32 s,.int .u32 n,.int .i64 u,.int .i64 c] 47)) hb3;obtain⟨d0,d1,d2,d3,d4⟩:=room5 hk3;obtain⟨A3,n3,c3,rfl⟩:=R8.shape hR3))
 refine bodyPost_ret (results_tmp2 rfl _ _ _) rfl ?_;have hz1:=Nat.le_of_lt hs1.out;have hbr:Below w1.heap.size w1 (w1.alloc (.cells #[.int .u8 e,.int .u32 s,.int .u32 n,.int .i64 u,.int .i64 c] 47)):=Qdr (Below.refl _ _) _;have hz3:w.heap.size≤w3.heap.size:=Nat.le_trans (Nat.le_trans hz1 hbr.size) hb3.size;refine⟨w3.heap.size,rfl,⟨_,_,Qff w3 _,?_,Kd.R_nil _ _ _ _ _⟩,?_,hz3⟩
 ·exact R8.low (R8.kept hR3 (Qdr (Below.refl _ _) _)) (Nat.le_trans hz1 hbr.size)
 ·exact((hw1.out.trans (Qlf hbr hz1)).trans (Qlf hb3 (Nat.le_trans hz1 hbr.size))).trans (Qlf (Qdr (Below.refl w3.heap.size w3) _) hz3)
theorem Qrj(b g:Nat)(R:Room5)(fr:List Int)(tb:List S117)(w:World)(hI:IsBd w b g R fr tb)(hl:fr.length≤140737488355328) :
  Calls Tryz.prog 29 #[.pointer (some ⟨g,0,none⟩)] w fun e w'=>∃v:Value,e=.returned v∧R8 w' w.heap.size v fr∧Below w.heap.size w w':=by
 obtain⟨fv,tv,hv,hR,hT⟩:=hI;obtain⟨A,n,c,rfl,hn,hlc,hC⟩:=R8.reads hR;have hc:w.cell? ⟨g,5,none⟩=some (.slice A n c):=(Qep hv 5).trans rfl;have hcl:=hC.1;have hu3:=Tryz.underlying108;have hcall:Calls Tryz.prog 70 #[.slice A n c] w fun e w'=>∃v0_:Value,e=.returned (v0_)∧R8 w' w.heap.size v0_ fr∧Below w.heap.size w w':=by
  subst hcl;exact Qlg A c fr w hC hl
 clear hcl
 go_enter Tryz.func29,Tryz.ntmps29
 go_wp2_with (go_at_call 70;refine hcall.mono ?_;rintro e w' ⟨v1,rfl,hd,hb⟩)
 go_ret
 exact⟨_,rfl,hd,hb⟩
theorem Qrk(b0 b g:Nat)(R:Room5)(fr:List Int)(tb:List S117)(fs:List Int)(fsv:Value)(sz:Nat)(w:World)(hI:IsBd w b0 g R fr tb)(hF:R8 w b fsv fs)(hbw:b≤w.heap.size)(hsz:Qam.f R.1 R.2.1=some (sz:Int))(hle:fs.length≤sz)(hs2:sz≤70368744177664) :
  Calls Tryz.prog 69 #[.pointer (some ⟨g,0,none⟩),fsv] w fun e w'=>∃v:Value,e=.returned v∧R8 w' b v (fs++List.replicate (sz-fs.length) 255)∧Below b w w':=by
 obtain⟨fv,tv,hv,hR,hT⟩:=hI;obtain⟨A,n,c,rfl,hn,hlc,hC⟩:=R8.reads hF;have hnf:n=fs.length:=hn.out;have hc0:w.cell? ⟨g,0,none⟩=some (.int .u8 R.1):=(Qep hv 0).trans rfl;have hc1:w.cell? ⟨g,1,none⟩=some (.int .u32 R.2.1):=(Qep hv 1).trans rfl;have hu:=Tryz.underlying27;have hu2:=Tryz.underlying47;have hu3:=Tryz.underlying108;have hnsz:n≤sz:=by omega
 have hsub:IntKind.i64.wrap ((sz:Int)-(n:Int))=((sz-n:Nat):Int):=by rw[IntWalk.i64_in _ (by omega)];omega
 have hsub2:(sz:Int)-(n:Int)=((sz-n:Nat):Int):=by omega
 obtain⟨k,hk⟩:∃k,k=sz-n:=⟨_,rfl⟩;rw[← hk]at hsub hsub2;have HK:=QA hk;have HSZ:=QA hsz;have HF:=QA hF;have HNF:=QA hnf;clear hk hsz hF hnf
 go_enter Tryz.func69,Tryz.ntmps69
 go_wp2_with (first
  |(go_at_call 78;refine(Qam.calls _ _ _ _ HSZ.out).mono ?_;rintro e w1 ⟨rfl,hb1⟩)
  |(go_at_call 120;go_loud (refine(Qrh _ _ 255 k _ (by have:=HK.out;omega) ?hrep).mono ?_;(case hrep=>exact Kd.C_of_reads (d:=(0:Int)) ⟨rfl,by omega,fun _=>⟨_,rfl,fun j hj=>by(obtain rfl:j=0:=(by omega));exact(Qep (Qff w1 _) 0).trans rfl⟩⟩);rintro e w2 ⟨A2,c2,rfl,hkc2,hC2,hb2⟩))
  |(at_builtin;refine Kd.R_append_rows (Kd.int .u8) (Rr:=fun x cs=>cs=[.int .u8 x]) (w0:=w) b rfl (.tmp 15) (.tmp 18) 52 5 (.int .u8 0) 1 rfl Tryz.underlying52 Qkd rfl (by decide) (by omega) (.slice A n c) fs (List.replicate k 255) A2 k c2 (fun _=>True) (fun _=>False) rfl rfl ?bO hC2 (fun _ _ h=>h) (fun _ hk=>hk.elim) (fun _ _=>trivial) ?bB ?bS ?bL ?_;(case bO=>exact R8.kept (R8.kept (R8.kept HF.out hb1) (Qdr (Below.refl _ _) _)) hb2);(case bB=>exact((Qlf hb1 hbw).trans (Qlf (Qdr (Below.refl w1.heap.size w1) _) (Nat.le_trans hbw hb1.size))).trans (Qlf hb2 (by rw[World.size_alloc];have:=hb1.size;omega)););(case bS=>have h1:=hb1.size;have h2:=hb2.size;rw[World.size_alloc]at h2;omega);(case bL=>have:=HK.out;have:=HNF.out;omega);intro v3 w3 a hb3 l hat3))
 go_ret
 refine⟨v3,rfl,?_,hb3⟩;have e1:k=sz-fs.length:=by rw[HK.out,HNF.out]
 rw[← e1];exact a
theorem Qrl(b g:Nat)(R:Room5)(fr:List Int)(tb:List S117)(sz:Nat)(w:World)(hI:IsBd w b g R fr tb)(hsz:Qam.f R.1 R.2.1=some (sz:Int))(hle:fr.length≤sz)(hs2:sz≤70368744177664) :
  Calls Tryz.prog 30 #[.pointer (some ⟨g,0,none⟩)] w fun e w'=>∃v:Value,e=.returned v∧R8 w' w.heap.size v (fr++List.replicate (sz-fr.length) 255)∧Below w.heap.size w w':=by
 go_enter Tryz.func30,Tryz.ntmps30
 go_wp2_with (first
  |(go_at_call 29;refine(Qrj b g R fr tb w hI (by omega)).mono ?_;rintro e w1 ⟨v1,rfl,hR1,hb1⟩)
  |(go_at_call 69;refine(Qrk b w.heap.size g R fr tb fr v1 sz w1 (hI.kept hb1) hR1 hb1.size hsz hle hs2).mono ?_;rintro e w2 ⟨v2,rfl,hR2,hb2⟩))
 go_ret
 exact⟨v2,rfl,hR2,hb1.trans hb2⟩
def Qrm(W:World)(g:Nat)(R:Room5)(fv tv:Value):Prop:=W.heap[g]? = some (.cells #[.int .u8 R.1,.int .u32 R.2.1,.int .u32 R.2.2.1,.int .i64 R.2.2.2.1,.int .i64 R.2.2.2.2,fv,tv] 108 (0,0))
theorem Qrn{W:World}{g:Nat}{R:Room5}{fv tv:Value}(h:Qrm W g R fv tv) :
  W.cell? ⟨g,0,none⟩=some (.int .u8 R.1)∧W.cell? ⟨g,1,none⟩=some (.int .u32 R.2.1)∧W.cell? ⟨g,2,none⟩=some (.int .u32 R.2.2.1)∧W.cell? ⟨g,3,none⟩=some (.int .i64 R.2.2.2.1)∧W.cell? ⟨g,4,none⟩=some (.int .i64 R.2.2.2.2)∧W.cell? ⟨g,5,none⟩=some fv∧W.cell? ⟨g,6,none⟩=some tv :=
 ⟨(Qep h 0).trans rfl,(Qep h 1).trans rfl,(Qep h 2).trans rfl,(Qep h 3).trans rfl,(Qep h 4).trans rfl,(Qep h 5).trans rfl,(Qep h 6).trans rfl⟩
theorem Qro:(Tryz.prog.info? 117).map (fun i=>(i.zero,i.size,i.bytes))=some (some (.agg #[.int .u64 0,.int .u32 0]),2,16):=by kernel_rfl
theorem bd_set5{W:World}{b g:Nat}{R:Room5}(R':Room5){fv tv:Value}{fr:List Int}{tb:List S117}(hv:Qrm W g R fv tv)(hR:R8 W b fv fr)(hT:Kd.R k117 117 W b (fun _=>True) tv tb)(hbg:b≤g) :
  ∃W',W'=(((((W.setCell ⟨g,0,none⟩ (.int .u8 R'.1)).setCell ⟨g,1,none⟩ (.int .u32 R'.2.1)).setCell ⟨g,2,none⟩ (.int .u32 R'.2.2.1)).setCell ⟨g,3,none⟩ (.int .i64 R'.2.2.2.1)).setCell ⟨g,4,none⟩ (.int .i64 R'.2.2.2.2)) ∧
   Qrm W' g R' fv tv∧R8 W' b fv fr∧Kd.R k117 117 W' b (fun _=>True) tv tb∧Below b W W'∧∀k,k≠g→W'.heap[k]? = W.heap[k]?:=by
 have ht:∀q,q∈117 :: (k117).E→q≠108:=by decide
 have b1:=Qem hv 0 (.int .u8 R'.1);have b2:=Qem b1 1 (.int .u32 R'.2.1);have b3:=Qem b2 2 (.int .u32 R'.2.2.1);have b4:=Qem b3 3 (.int .i64 R'.2.2.2.1);have b5:=Qem b4 4 (.int .i64 R'.2.2.2.2);refine⟨_,rfl,b5,?_,?_,?_,fun k hk=>?_⟩
 ·exact R8.set (R8.set (R8.set (R8.set (R8.set hR hv (by decide) 0 _) b1 (by decide) 1 _) b2 (by decide) 2 _) b3 (by decide) 3 _) b4 (by decide) 4 _
 ·exact Kd.R_set (Kd.R_set (Kd.R_set (Kd.R_set (Kd.R_set hT hv ht 0 _) b1 ht 1 _) b2 ht 2 _) b3 ht 3 _) b4 ht 4 _
 ·exact Qle (Qle (Qle (Qle (Qle (Below.refl _ _) hbg) hbg) hbg) hbg) hbg
 ·rw[Below.heap_setCell _ _ _ k hk,Below.heap_setCell _ _ _ k hk,Below.heap_setCell _ _ _ k hk,Below.heap_setCell _ _ _ k hk,Below.heap_setCell _ _ _ k hk]
def Tb(g:Nat)(w w':World):Prop:=∀k cs t,w.heap[k]? = some (.cells cs t (0,0))→t≠5→t≠117→k≠g→w'.heap[k]? = some (.cells cs t (0,0))
theorem Tb.below{g:Nat}{w w':World}(h:Below w.heap.size w w'):Tb g w w':=fun _ _ _ h1 _ _ _=>Qfe h1 h
theorem Tb.trans{g:Nat}{a b c:World}(h:Tb g a b)(k:Tb g b c):Tb g a c:=fun _ _ _ h1 h2 h3 h4=>k _ _ _ (h _ _ _ h1 h2 h3 h4) h2 h3 h4
theorem Tb.set{g j:Nat}{w W:World}(h:Tb g w W)(v:Value):Tb g w (W.setCell ⟨g,j,none⟩ v):=fun _ _ _ h1 h2 h3 h4=>Qen (h _ _ _ h1 h2 h3 h4) h4 v
theorem Tb.grown{g q:Nat}{w W W':World}{row:Option Nat}(h:Tb g w W)(hg:W.grownBy W' row)(hty:∀k,row=some k→∃cells,W.heap[k]? = some (.cells cells q (0,0)))(hq:q=5∨q=117):Tb g w W':=fun k cs t h1 h2 h3 h4=>by
 have h5:=h _ _ _ h1 h2 h3 h4;refine Qer h5 hg (fun e=>?_);obtain⟨cells,hc⟩:=hty k e.symm;rw[hc]at h5
 injection h5 with h5
 injection h5 with _ h5
 rcases hq with hq|hq
 ·exact h2 (h5.symm.trans hq)
 ·exact h3 (h5.symm.trans hq)
theorem bd_Add(b g:Nat)(R R':Room5)(fr F:List Int)(tb:List S117)(d:Bool)(s:Int)(key v:ByteArray)(w:World)(hI:IsBd w b g R fr tb)(hbg:b≤g)(hbw:b≤w.heap.size)
  (hchk:chk d key v=0) (hput:Qcq.f d s key v=some (F,0)) (htl:Qde.f R.1 R.2.1 F.length=some false) (htk:Qdd.f R.1 R.2.1 R.2.2.1 R.2.2.2.1 R.2.2.2.2 F.length=some (R'.1,R'.2.1,R'.2.2.1,R'.2.2.2.1,R'.2.2.2.2,0))
  (hl:fr.length+F.length≤70368744177664) (hk:key.size≤70368744177664) (ht:tb.length≤1099511627776) :
  Calls Tryz.prog 21 #[.pointer (some ⟨g,0,none⟩),.agg #[.bool d,.int .u64 s,.string key,.string v]] w fun e w'=>e=.returned (.tuple #[.int .u32 ((fr.length:Int)%4294967296),.int .i64 0])∧IsBd w' b g R' (fr++F) (tb++[⟨Qnm 0 (bytesOf key),(fr.length:Int)%4294967296⟩])∧Below b w w'∧Tb g w w':=by
 have hu:=Tryz.underlying39;have hu1:=Tryz.underlying27;have hu2:=Tryz.underlying47;have hu3:=Tryz.underlying108;obtain⟨fv,tv,hv,hR,hT⟩:=hI;obtain⟨AT,nT,cT,rfl⟩:∃A n c,tv=.slice A n c:=by
  obtain⟨A,c,e⟩:=Kd.R_slice hT;exact⟨A,_,c,e⟩
 obtain⟨A,n,c,rfl,hn,hlc,hC⟩:=R8.reads hR;have hv':Qrm w g R (.slice A n c) (.slice AT nT cT):=hv;have hgw:g<w.heap.size:=Qeo hv;have hcheck:=Qqp d s key v;rw[hchk]at hcheck;have HCK:=QA hcheck;have HPU:=QA hput;have HTL:=QA htl;have HTK:=QA htk;have HR:=QA hR;have HT:=QA hT;have HV:=QA hv';have r:=hn;clear hcheck hput htl htk hchk hR hT hv hC hn hv';have hba:Below w.heap.size w (w.alloc (.cells #[.bool d,.int .u64 s,.string key,.string v] 39)):=Qdr (Below.refl _ _) _;have hbn:=Qff w (.cells #[.bool d,.int .u64 s,.string key,.string v] 39)
 go_enter Tryz.func21,Tryz.ntmps21
 go_upto_region 12 with(first
  |(go_at_call 56;refine(Qdg.calls 1 _ s key v 0 _ HCK.out).mono ?_;rintro e w1 ⟨rfl,hb1⟩;have hB1:=QA (Qdu hba hba.size hb1);have hk1:=Qfe hbn hb1;obtain⟨c0,c1,c2,c3⟩:=box4 hk1)
  |(go_at_call 57;refine(Qcq.calls _ s key v F 0 _ HPU.out).mono ?_;rintro e w2 ⟨vF,rfl,hRF,hb2⟩;have hB2:=QA (Qdu hB1.out hB1.out.size hb2);have hk2:=Qfe hk1 hb2;obtain⟨AF,nF,cF,rfl,hnF,hlF,hCF⟩:=R8.reads hRF;have hv2:Qrm w2 g R (.slice A n c) (.slice AT nT cT):=Qfe HV.out hB2.out;obtain⟨g0,g1,g2,g3,g4,g5,g6⟩:=Qrn hv2;clear c0 c1 c2 c3)
  |(go_at_call 58;refine(Qde.calls _ _ _ false _ (by rw[hnF.out];exact HTL.out)).mono ?_;rintro e w3 ⟨rfl,hb3⟩;have hB3:=QA (Qdu hB2.out hB2.out.size hb3);have hk3:=Qfe hk2 hb3;have hv3:Qrm w3 g R (.slice A n c) (.slice AT nT cT):=Qfe HV.out hB3.out;obtain⟨h0,h1,h2,h3,h4,h5,h6⟩:=Qrn hv3;clear g0 g1 g2 g3 g4 g5 g6)
  |(go_at_call 59;refine(Qdd.calls _ _ _ _ _ _ _ _ _ _ _ _ _ (by rw[hnF.out];exact HTK.out)).mono ?_;rintro e w4 ⟨rfl,hb4⟩;have hB4:=QA (Qdu hB3.out hB3.out.size hb4);have hk4:=Qfe hk3 hb4;have hv4:Qrm w4 g R (.slice A n c) (.slice AT nT cT):=Qfe HV.out hB4.out;have hv5:Qrm (w4.alloc (.cells #[.int .u8 R'.1,.int .u32 R'.2.1,.int .u32 R'.2.2.1,.int .i64 R'.2.2.2.1,.int .i64 R'.2.2.2.2] 47)) g R (.slice A n c) (.slice AT nT cT):=Qfb hv4 _;obtain⟨i0,i1,i2,i3,i4,i5,i6⟩:=Qrn hv5;have f0:=Qeq hv5 0;have f1:=Qeq hv5 1;have f2:=Qeq hv5 2;have f3:=Qeq hv5 3;have f4:=Qeq hv5 4;have f5:=Qeq hv5 5;clear h0 h1 h2 h3 h4 h5 h6))
 have hv5:Qrm (w4.alloc (.cells #[.int .u8 R'.1,.int .u32 R'.2.1,.int .u32 R'.2.2.1,.int .i64 R'.2.2.2.1,.int .i64 R'.2.2.2.2] 47)) g R (.slice A n c) (.slice AT nT cT):=Qfb hv4 _;have hb5:Below w4.heap.size w4 (w4.alloc (.cells #[.int .u8 R'.1,.int .u32 R'.2.1,.int .u32 R'.2.2.1,.int .i64 R'.2.2.2.1,.int .i64 R'.2.2.2.2] 47)):=Qdr (Below.refl _ _) _;have hB5:=Qdu hB4.out hB4.out.size hb5;obtain⟨W6,hW6,hv6,hR6,hT6,hb6,hk6⟩:=bd_set5 R' hv5 (R8.kept HR.out hB5) (Kd.R_below HT.out hB5) hbg;have K6:Aside0 (Tb g w W6):=⟨fun k cs t h1 _ _ h4=>(hk6 k h4).trans (Qfe h1 hB5)⟩;rw[← hW6];have hs6:w4.heap.size≤W6.heap.size:=Nat.le_trans hb5.size hb6.size;clear hW6 i0 i1 i2 i3 i4 i5 i6 f0 f1 f2 f3 f4 f5;obtain⟨m0,m1,m2,m3,m4,m5,m6⟩:=Qrn hv6;have D:g<w1.heap.size:=Nat.lt_of_lt_of_le hgw hB1.out.size;have hRF5:=R8.kept (R8.kept (R8.kept hRF hb3) hb4) hb5;have hRF6:R8 W6 w1.heap.size (.slice AF nF cF) F:=Kd.R_mono (Kd.R_step (Kd.R_bound hRF5) (fun k hk _=>hk6 k (by have:=hk.2.1;omega))) (fun _ _=>trivial);have hCF6:Kd.C (Kd.int .u8) W6 AF nF F:=by
  have h:=Kd.R_reads' hRF6;rw[h.1];exact h.2.2
 have hB6:=QA ((Qlf hB5 hbw).trans hb6);have hz6:b≤W6.heap.size:=Nat.le_trans hbw hB6.out.size;clear hRF5 hRF6 hRF
 go_wp2_with (first
  |(at_builtin;go_loud (refine Kd.R_append_rows (Kd.int .u8) (Rr:=fun x cs=>cs=[.int .u8 x]) (w0:=W6) b rfl (.tmp 57) (.tmp 58) 52 5 (.int .u8 0) 1 rfl Tryz.underlying52 Qkd rfl (by decide) (by omega) (.slice A n c) fr F AF nF cF (fun _=>True) (fun _=>False) rfl rfl hR6 hCF6 (fun _ _ h=>h) (fun _ hk=>hk.elim) (fun _ _=>trivial) (Below.refl _ _) hz6 ?bL ?_;(case bL=>have:=hnF.out;omega);intro v7 w7 l hb7 j hat7;obtain⟨A7,n7,c7,rfl⟩:=R8.shape l;have hv7:Qrm w7 g R' (.slice A n c) (.slice AT nT cT):=Qer hv6 j (R8.clean hR6 hv6 (by decide));obtain⟨p0,p1,p2,p3,p4,p5,p6⟩:=Qrn hv7;have f5:=Qeq hv7 5;clear m0 m1 m2 m3 m4 m5 m6)))
 have K7:=QA (Tb.grown K6.out j (Kd.R_typed hR6) (.inl rfl));have hgB:w.heap.size≠g:=by omega
 have q5:=Qfb hk4 (.cells #[.int .u8 R'.1,.int .u32 R'.2.1,.int .u32 R'.2.2.1,.int .i64 R'.2.2.2.1,.int .i64 R'.2.2.2.2] 47);have q6:=(hk6 _ hgB).trans q5;have q7:=Qer q6 j (R8.clean hR6 q6 (by decide));have hT7:=Kd.R_over' hT6 (Kd.R_typed hR6) (by decide) j;have ht:∀q,q∈117 :: (k117).E→q≠108:=by decide
 obtain⟨W8,hW8⟩:∃W8,W8=w7.setCell ⟨g,5,none⟩ (.slice A7 n7 c7):=⟨_,rfl⟩;have q8:W8.heap[w.heap.size]? = some (.cells #[.bool d,.int .u64 s,.string key,.string v] 39 (0,0)):=by rw[hW8];exact Qen q7 hgB _
 have hv8:Qrm W8 g R' (.slice A7 n7 c7) (.slice AT nT cT):=by rw[hW8];exact Qem hv7 5 _
 have hR8:R8 W8 b (.slice A7 n7 c7) (fr++F):=by rw[hW8];exact R8.set l hv7 (by decide) 5 _
 have hT8:Kd.R k117 117 W8 b (fun _=>True) (.slice AT nT cT) tb:=by rw[hW8];exact Kd.R_set hT7 hv7 ht 5 _
 have hB8:Aside0 (Below b w W8):=⟨by rw[hW8];exact Qle (hB6.out.trans hb7) hbg⟩;have K8:Aside0 (Tb g w W8):=⟨by rw[hW8];exact K7.out.set _⟩;rw[← hW8];clear hW8;have u:=QA hR8;have HT8:=QA hT8;clear hR8 hT8 hT7 hT6 hR6 l q5 q6 q7 hv7;obtain⟨r0,r1,r2,r3⟩:=box4 q8;obtain⟨s0,s1,s2,s3,s4,s5,s6⟩:=Qrn hv8;have hz8:b≤W8.heap.size:=Nat.le_trans hbw hB8.out.size;clear p0 p1 p2 p3 p4 p5 p6;have hnn:n=fr.length:=r.out;have HNN:=QA hnn;clear hnn
 go_region_law (first
  |(go_simp;go_at_call 60;refine(hash_of key W8.drew (by omega)).mono ?_;rintro e w9 ⟨rfl,hb9⟩;have hv9:Qrm w9 g R' (.slice A7 n7 c7) (.slice AT nT cT):=Qfe (w:=W8.drew) hv8 hb9;have hB9:Aside0 (Below b w w9):=⟨(hB8.out.trans (Qds (Below.refl _ _))).trans (Qlf hb9 hz8)⟩;have K9:=QA (K8.out.trans (Tb.below (w:=W8.drew) hb9));have y:=QA (R8.kept (W:=W8.drew) u.out hb9);have HT9:=QA (Kd.R_below (w:=W8.drew) HT8.out hb9);obtain⟨u0,u1,u2,u3,u4,u5,u6⟩:=Qrn hv9;have a6:∀o,(w9.alloc o).cell? ⟨g,6,none⟩=some (.slice AT nT cT):=(fun o=>(Qrn (Qfb hv9 o)).2.2.2.2.2.2))
  |(refine Kd.R_append_step k117 (w0:=w) b (by rfl) (.tmp 66) (.tmp 72) 106 117 (.agg #[(.int .u64 0),(.int .u32 0)]) 16 rfl Tryz.underlying106 Qro rfl (by decide) (by omega) (.slice AT nT cT) tb (⟨Qnm 0 (bytesOf key),(n:Int)%4294967296⟩:S117) [.int .u64 (Qnm 0 (bytesOf key)),.int .u32 ((n:Int)%4294967296)] (fun _=>True) (fun _=>False) rfl ?ax ?aP (fun _ hk=>hk.elim) (fun _ _=>trivial) ?aO hB9.out ?aS ?aL ?_;(case ax=>rfl);(case aP=>exact Qko _ _ _ (⟨Qnm 0 (bytesOf key),(n:Int)%4294967296⟩:S117));(case aO=>exact HT9.out);(case aS=>exact Nat.le_trans hbw hB9.out.size);(case aL=>omega);intro z B m hb10 a hat10;obtain⟨G,I,c10,rfl⟩:∃A n c,z=.slice A n c:=(by obtain⟨A,c,e⟩:=Kd.R_slice m;exact⟨A,_,c,e⟩);have hv10:Qrm B g R' (.slice A7 n7 c7) (.slice AT nT cT):=Qer hv9 a (Kd.R_ne HT9.out hv9 (by decide));have K10:=QA (Tb.grown K9.out a (Kd.R_typed HT9.out) (.inr rfl));have p:=QA (Kd.R_over' y.out (Kd.R_typed HT9.out) (by decide) a);obtain⟨x0,x1,x2,x3,x4,x5,x6⟩:=Qrn hv10;have fx:=Qeq hv10 6;clear u0 u1 u2 u3 u4 u5 u6 a6))
 all_goals
  go_wp2;refine bodyPost_ret (results_tmp2 rfl _ _ _) rfl ?_;refine⟨by(rw[← HNN.out];rfl),⟨_,_,Qem hv10 6 _,R8.set p.out hv10 (by decide) 6 _,?_⟩,Qle hb10 hbg,K10.out.set _⟩;rw[← HNN.out];exact Kd.R_set m hv10 ht 6 _
def h12:List Int:=[5,1,2,12,1,9,239,228,35,222,95,189,149,23,0]
theorem head12:Qcp.f 12 1 0=some (h12,0):=by kernel_rfl
theorem empty12:Qcz.f 12 1 0=some (12,1,0,15,0,0):=by kernel_rfl
theorem size12:Qam.f 12 1=some ((4096:Nat):Int):=by kernel_rfl
def o12:List Int:=h12++List.replicate (4096-h12.length) 255
theorem o12_at:o12.length=4096∧rd o12 14=0∧rd o12 15=255∧rd o12 4095=255:=⟨by kernel_rfl,by kernel_rfl,by kernel_rfl,by kernel_rfl⟩
def Qap.f:Option Bool:=some true
theorem Qap.calls(r:Bool)(w:World)(h:Qap.f=some r) :
  Calls Tryz.prog 15 #[] w fun e w'=>e=.returned (.bool r)∧Below w.heap.size w w':=by
 obtain rfl:=Option.some.inj h;have hu:=Tryz.underlying27
 go_enter Tryz.func15,Tryz.ntmps15
 go_wp2_with (first
  |(go_at_call 18;refine(Qri 12 1 0 15 0 h12 w empty12 head12).mono ?_;rintro e w1 ⟨g,rfl,hI1,hb1,hg1⟩)
  |(go_at_call 30;go_loud (refine(Qrl w.heap.size g (12,1,0,15,0) h12 [] 4096 w1 hI1 size12 (by decide) (by decide)).mono ?_;rintro e w2 ⟨v2,rfl,hR2,hb2⟩;obtain⟨A2,n2,c2,rfl,hn2,hlc2,hC2⟩:=R8.reads hR2;have hn2':n2=4096:=hn2.out.trans o12_at.1;subst hn2';obtain⟨ad,rfl,x14⟩:=Kd.at_int hC2 14 (by decide) (by decide);obtain⟨ad',hh,x15⟩:=Kd.at_int hC2 15 (by decide) (by decide);cases hh;obtain⟨ad',hh,x4095⟩:=Kd.at_int hC2 4095 (by decide) (by decide);cases hh;have y14:w2.cell? ⟨ad.block,ad.off+14,none⟩=some (.int .u8 0):=x14.trans (congrArg (fun z=>some (Value.int .u8 z)) o12_at.2.1);have y15:w2.cell? ⟨ad.block,ad.off+15,none⟩=some (.int .u8 255):=x15.trans (congrArg (fun z=>some (Value.int .u8 z)) o12_at.2.2.1);have y4095:w2.cell? ⟨ad.block,ad.off+4095,none⟩=some (.int .u8 255):=x4095.trans (congrArg (fun z=>some (Value.int .u8 z)) o12_at.2.2.2);clear x14 x15 x4095)))
 go_ret
 exact⟨rfl,hb1.trans (Qlf hb2 hb1.size)⟩
theorem Quo(n:Nat)(hn:n≤64):∀(d i:Nat) (x:Int),i+d=n→∃r,Qbb.l0 (d+1) x (n:Int) (i:Int)=some r
 | 0,i,x,h=>by
  refine⟨x,?_⟩;unfold Qbb.l0;rw[if_neg (by omega)]
 | d+1,i,x,h=>by
  obtain⟨r,hr⟩:=Quo n hn d (i+1) (IntKind.u64.wrap ((Int.tmod (IntKind.u64.wrap (2*x)) 4294967296)+(IntKind.u64.wrap (Int.tdiv x 2147483648)))) (by omega);refine⟨r,?_⟩;unfold Qbb.l0;rw[if_pos (by omega),show wrap64 ((i:Int)+1)=((i+1:Nat):Int)by unfold wrap64;omega];exact hr
def Qup(x:Int)(n:Nat):Int:=(Qbb.f (n+1) x n).getD 0
theorem Quq(x:Int)(n:Nat)(hn:n≤64):Qbb.f (n+1) x n=some (Qup x n):=by
 obtain⟨r,hr⟩:=Quo n hn n 0 x (by omega);have h:Qbb.f (n+1) x n=some r:=hr;unfold Qup;rw[h];rfl
def Qur(x y:Int):Int:=(Qaz.f 14 x y).getD 0
theorem Qus(x y:Int):Qaz.f 14 x y=some (Qur x y):=by
 unfold Qur Qaz.f;rw[show(14:Nat)=13+1 from rfl,show(13:Int)=((13:Nat):Int) from rfl,Quq _ 13 (by omega)];rfl
theorem Qut(n:Nat)(hn:n≤64)(x:Int):∀(d i:Nat) (y:Int),i+d=n→∃r,Qba.l0 (d+1) x y (n:Int) (i:Int)=some r
 | 0,i,y,h=>by
  refine⟨Go.bits .xor .u64 x y,?_⟩;unfold Qba.l0;rw[if_neg (by omega)]
 | d+1,i,y,h=>by
  obtain⟨r,hr⟩:=Qut n hn x d (i+1) (IntKind.u64.wrap (Int.tdiv y 2)) (by omega);refine⟨r,?_⟩;unfold Qba.l0;rw[if_pos (by omega),show wrap64 ((i:Int)+1)=((i+1:Nat):Int)by unfold wrap64;omega];exact hr
def Quu(x:Int)(n:Nat):Int:=(Qba.f (n+1) x n).getD 0
theorem mix3_is(x:Int)(n:Nat)(hn:n≤64):Qba.f (n+1) x n=some (Quu x n):=by
 obtain⟨r,hr⟩:=Qut n hn x n 0 x (by omega);have h:Qba.f (n+1) x n=some r:=hr;unfold Quu;rw[h];rfl
theorem Quv(x:Int)(n:Nat)(j:Int)(hj:j=(n:Int))(hn:n≤64)(W:World):Calls Tryz.prog 237 #[.int .u64 x,.int .i64 j] W fun e w'=>e=.returned (.int .u64 (Qup x n))∧Drawn0 W w':=by
 subst hj;exact Qbb.calls _ x n _ W (Quq x n hn)
theorem Quw(x y:Int)(W:World):Calls Tryz.prog 236 #[.int .u64 x,.int .u64 y] W fun e w'=>e=.returned (.int .u64 (Qur x y))∧Drawn0 W w':=Qaz.calls _ x y _ W (Qus x y)
theorem Qux(x:Int)(n:Nat)(j:Int)(hj:j=(n:Int))(hn:n≤64)(W:World):Calls Tryz.prog 238 #[.int .u64 x,.int .i64 j] W fun e w'=>e=.returned (.int .u64 (Quu x n))∧Drawn0 W w':=by
 subst hj;exact Qba.calls _ x n _ W (mix3_is x n hn)
def Quy(v:V4)(s:ByteArray):V4:=(Qur v.1 (rval (s.extract 0 4)),Qur v.2.1 (rval (s.extract 4 8)),Qur v.2.2.1 (rval (s.extract 8 12)),Qur v.2.2.2 (rval (s.extract 12 16)))
def run3:Nat→V4→ByteArray→V4 × ByteArray
 | 0,v,s=>(v,s)
 | m+1,v,s=>run3 m (Quy v s) (s.extract 16 s.size)
def sum3(V:V4):Int:=Int.tmod (IntKind.u64.wrap (IntKind.u64.wrap (IntKind.u64.wrap (Qup V.1 1+Qup V.2.1 7)+Qup V.2.2.1 12)+Qup V.2.2.2 18)) 4294967296
def Quz(sd:Int):V4:=(Int.tmod (IntKind.u64.wrap (IntKind.u64.wrap (IntKind.u64.wrap sd+2654435761)+2246822519)) 4294967296,Int.tmod (IntKind.u64.wrap (IntKind.u64.wrap sd+2246822519)) 4294967296,IntKind.u64.wrap sd,Int.tmod (IntKind.u64.wrap (IntKind.u64.wrap (IntKind.u64.wrap sd+4294967296)-2654435761)) 4294967296)
def Qva(i:Nat)(v:V4)(s:ByteArray):V4:=(if 0<i then Qur v.1 (rval (s.extract 0 4))else v.1,if 1<i then Qur v.2.1 (rval (s.extract 4 8))else v.2.1,if 2<i then Qur v.2.2.1 (rval (s.extract 8 12))else v.2.2.1,if 3<i then Qur v.2.2.2 (rval (s.extract 12 16))else v.2.2.2)
def Qvb(sd:Int)(s:ByteArray):Int × ByteArray:=if 16≤s.size then(sum3 (run3 (s.size/16) (Quz sd) s).1,(run3 (s.size/16) (Quz sd) s).2)else(Int.tmod (IntKind.u64.wrap (IntKind.u64.wrap sd+374761393)) 4294967296,s)
def Qvc(h:Int)(s:ByteArray):Int:=Int.tmod (IntKind.u64.wrap (Qup (Int.tmod (IntKind.u64.wrap (h+IntKind.u64.wrap (rval (s.extract 0 4)*3266489917))) 4294967296) 17*668265263)) 4294967296
def Qvd:Nat→Int→ByteArray→Int × ByteArray
 | 0,h,s=>(h,s)
 | m+1,h,s=>Qvd m (Qvc h s) (s.extract 4 s.size)
def one3(h x:Int):Int:=Int.tmod (IntKind.u64.wrap (Qup (Int.tmod (IntKind.u64.wrap (h+IntKind.u64.wrap (IntKind.u64.wrap x*374761393))) 4294967296) 11*2654435761)) 4294967296
def fin3(h:Int):Int:=Quu (Int.tmod (IntKind.u64.wrap (Quu (Int.tmod (IntKind.u64.wrap (Quu h 15*2246822519)) 4294967296) 13*3266489917)) 4294967296) 16
def Qve(h:Int)(s:ByteArray):Int:=fin3 ((bytesOf (Qvd (s.size/4) h s).2).foldl one3 (Qvd (s.size/4) h s).1)
def Qvf(sd:Int)(s:ByteArray)(long:Int):Int × ByteArray:=(Int.tmod (IntKind.u64.wrap ((Qvb sd s).1+long)) 4294967296,(Qvb sd s).2)
def Qvg(s:ByteArray):Int:=(s.size:Int)%4294967296
def doc3(sd:Int)(s:ByteArray):Int:=Qve (Qvf sd s (Qvg s)).1 (Qvf sd s (Qvg s)).2
def V3At(W:World)(g:Nat)(V:V4):Prop:=W.heap[g]? = some (.cells #[.int .u64 V.1,.int .u64 V.2.1,.int .u64 V.2.2.1,.int .u64 V.2.2.2] 231 (0,0))
theorem Qvh(s:ByteArray)(a b:Nat)(h:b-a≤1000):(s.extract a b).size≤1000:=by
 rw[ByteArray.size_extract];omega
theorem doc_of (sd:Int) (s0:ByteArray) (w:World) (hs:s0.size≤9223372036854775807) :
  Calls Tryz.prog 225 #[.int .u32 sd,.string s0] w fun e w'=>e=.returned (.int .u32 (IntKind.u32.wrap (doc3 sd s0)))∧Below w.heap.size w w':=by
 have hu2:=Tryz.underlying231
 go_enter Tryz.func225,Tryz.ntmps225
 go_upto_if 20 with fail
 go_cut [1,5] (fun v1 v5 w'=>∃(h:Int) (s:ByteArray),v1=.string s∧v5=.int .u64 h∧s.size≤s0.size∧Aside0 ((h,s)=Qvb sd s0)∧Below w.heap.size w w')
 case first =>
  by_cases c:16≤s0.size
  ·have a:(16:Int)≤(s0.size:Int):=by omega
   go_wp2_with fail
   obtain⟨g,hg⟩:∃g,g=w.heap.size:=⟨_,rfl⟩;obtain⟨V0,hV0⟩:∃V0,V0=Quz sd:=⟨_,rfl⟩;obtain⟨W,hW⟩:∃W,W=w.alloc (.cells #[.int .u64 (Quz sd).1,.int .u64 (Quz sd).2.1,.int .u64 (Quz sd).2.2.1,.int .u64 (Quz sd).2.2.2] 231):=⟨_,rfl⟩;have HV0:=QA (show V3At W g V0 by rw[hW,hg,hV0];exact Qff w _);have HW0:=QA (show Below w.heap.size w W by rw[hW];exact Qdr (Below.refl _ _) _);unfold Quz at hW;dsimp only at hW;rw[← hW,← hg];have hd20:decide ((16:Int)≤(s0.size:Int))=true:=decide_eq_true a;rw[hd20];clear hd20;have HG:=QA hg;have HVV:=QA hV0;have o:=QA c;clear hW hg hV0 c a
   go_loopw [1,8,41] (fun v1 v8 b wr=>∃(m:Nat) (s:ByteArray) (V:V4),v1=.string s∧s.size≤s0.size∧Aside0 (s.size/16=m∧run3 (s0.size/16) V0 s0=run3 m V s)∧Aside0 (V3At wr g V)∧Aside0 (Below w.heap.size w wr))
    (fun v1 _ _ _=>Qnz v1)
   case atStart=>exact⟨_,s0,V0,rfl,Nat.le_refl _,⟨rfl,rfl⟩,HV0,HW0⟩
   case round =>
    clear HV0 HW0;obtain⟨m,s,V,rfl,hss,HM,HV,HB⟩:=hrel
    by_cases t:16≤s.size
    ·have n:(16:Int)≤(s.size:Int):=by omega
     go_wp2_with fail
     go_loopw [8,41] (fun v8 b wi=>∃(i:Nat) (iv:Int),i≤4∧b=.int .i64 iv∧Aside0 (iv=(i:Int))∧Aside0 (V3At wi g (Qva i V s))∧Aside0 (Below w.heap.size w wi))
      (fun _ b _=>4-(intOf b).toNat)
     case atStart=>exact⟨0,0,by omega,rfl,⟨rfl⟩,HV,HB⟩
     case round =>
      clear HV HB;obtain⟨i,iv,hi,rfl,HI,HV,HB⟩:=hrel
      by_cases h4:i<4
      ·have hk:i=0∨i=1∨i=2∨i=3:=by omega
       rcases hk with rfl|rfl|rfl|rfl
       ·obtain rfl:iv=0:=HI.out;have cv:wr.cell? ⟨g,0,none⟩=some (.int .u64 V.1):=(Qep HV.out 0).trans rfl;have fv:=Qeq HV.out 0
        go_wp2_with fail
        have hw0:IntKind.i64.wrap 0=0:=IntWalk.i64_in 0 (by decide);have hw1:IntKind.i64.wrap 4=4:=IntWalk.i64_in 4 (by decide);have hsz:(4:Int)≤(s.size:Int):=by omega
        have hx:(s.extract 0 4).size≤1000:=Qvh s 0 4 (by decide)
        go_region_with (first |(go_at_call 107;refine(Qob (s.extract 0 4) hx _).mono ?_;rintro e w7 ⟨rfl,hd⟩;obtain⟨q,rfl⟩:=hd.out;clear hd) |(go_at_call 236;refine(Quw _ _ _).mono ?_;rintro e w8 ⟨rfl,hd⟩;obtain⟨q2,rfl⟩:=hd.out;clear hd))
        all_goals
         go_wp2_with fail
         go_roundw
         case rel=>exact⟨1,1,by omega,by go_num,⟨rfl⟩,⟨Qem (w:=wr.drewN _) HV.out 0 _⟩,⟨Qle (Qdt HB.out _) qq_22⟩⟩
         case measure=>simp[intOf]
       ·obtain rfl:iv=1:=HI.out;have cv:wr.cell? ⟨g,1,none⟩=some (.int .u64 V.2.1):=(Qep HV.out 1).trans rfl;have fv:=Qeq HV.out 1
        go_wp2_with fail
        have hw0:IntKind.i64.wrap 4=4:=IntWalk.i64_in 4 (by decide);have hw1:IntKind.i64.wrap 8=8:=IntWalk.i64_in 8 (by decide);have hsz:(8:Int)≤(s.size:Int):=by omega
        have hx:(s.extract 4 8).size≤1000:=Qvh s 4 8 (by decide)
        go_region_with (first |(go_at_call 107;refine(Qob (s.extract 4 8) hx _).mono ?_;rintro e w7 ⟨rfl,hd⟩;obtain⟨q,rfl⟩:=hd.out;clear hd) |(go_at_call 236;refine(Quw _ _ _).mono ?_;rintro e w8 ⟨rfl,hd⟩;obtain⟨q2,rfl⟩:=hd.out;clear hd))
        all_goals
         go_wp2_with fail
         go_roundw
         case rel=>exact⟨2,2,by omega,by go_num,⟨rfl⟩,⟨Qem (w:=wr.drewN _) HV.out 1 _⟩,⟨Qle (Qdt HB.out _) qq_22⟩⟩
         case measure=>simp[intOf]
       ·obtain rfl:iv=2:=HI.out;have cv:wr.cell? ⟨g,2,none⟩=some (.int .u64 V.2.2.1):=(Qep HV.out 2).trans rfl;have fv:=Qeq HV.out 2
        go_wp2_with fail
        have hw0:IntKind.i64.wrap 8=8:=IntWalk.i64_in 8 (by decide);have hw1:IntKind.i64.wrap 12=12:=IntWalk.i64_in 12 (by decide);have hsz:(12:Int)≤(s.size:Int):=by omega
        have hx:(s.extract 8 12).size≤1000:=Qvh s 8 12 (by decide)
        go_region_with (first |(go_at_call 107;refine(Qob (s.extract 8 12) hx _).mono ?_;rintro e w7 ⟨rfl,hd⟩;obtain⟨q,rfl⟩:=hd.out;clear hd) |(go_at_call 236;refine(Quw _ _ _).mono ?_;rintro e w8 ⟨rfl,hd⟩;obtain⟨q2,rfl⟩:=hd.out;clear hd))
        all_goals
         go_wp2_with fail
         go_roundw
         case rel=>exact⟨3,3,by omega,by go_num,⟨rfl⟩,⟨Qem (w:=wr.drewN _) HV.out 2 _⟩,⟨Qle (Qdt HB.out _) qq_22⟩⟩
         case measure=>simp[intOf]
       ·obtain rfl:iv=3:=HI.out;have cv:wr.cell? ⟨g,3,none⟩=some (.int .u64 V.2.2.2):=(Qep HV.out 3).trans rfl;have fv:=Qeq HV.out 3
        go_wp2_with fail
        have hw0:IntKind.i64.wrap 12=12:=IntWalk.i64_in 12 (by decide);have hw1:IntKind.i64.wrap 16=16:=IntWalk.i64_in 16 (by decide);have hsz:(16:Int)≤(s.size:Int):=by omega
        have hx:(s.extract 12 16).size≤1000:=Qvh s 12 16 (by decide)
        go_region_with (first |(go_at_call 107;refine(Qob (s.extract 12 16) hx _).mono ?_;rintro e w7 ⟨rfl,hd⟩;obtain⟨q,rfl⟩:=hd.out;clear hd) |(go_at_call 236;refine(Quw _ _ _).mono ?_;rintro e w8 ⟨rfl,hd⟩;obtain⟨q2,rfl⟩:=hd.out;clear hd))
        all_goals
         go_wp2_with fail
         go_roundw
         case rel=>exact⟨4,4,by omega,by go_num,⟨rfl⟩,⟨Qem (w:=wr.drewN _) HV.out 3 _⟩,⟨Qle (Qdt HB.out _) qq_22⟩⟩
         case measure=>simp[intOf]
      ·obtain rfl:i=4:=by omega
       obtain rfl:iv=4:=HI.out
       go_wp2_with fail
       go_roundw
       case rel =>
        have e4:Qva 4 V s=Quy V s:=rfl;have hm:=HM.out;have hd:(s.extract 16 s.size).size=s.size-16:=by rw[ByteArray.size_extract];omega
        refine⟨m-1,s.extract 16 s.size,Quy V s,rfl,by rw[hd];omega,⟨by rw[hd];omega,?_⟩,⟨?_⟩,HB⟩
        ·rw[hm.2,show m=(m-1)+1 by omega];rfl
        ·exact HV.out
       case measure=>simp[Qnz];omega
    ·have n:(s.size:Int)<16:=by omega
     go_wp2_with fail
     have c0:wr.cell? ⟨g,0,none⟩=some (.int .u64 V.1):=(Qep HV.out 0).trans rfl;have c1:wr.cell? ⟨g,1,none⟩=some (.int .u64 V.2.1):=(Qep HV.out 1).trans rfl;have c2:wr.cell? ⟨g,2,none⟩=some (.int .u64 V.2.2.1):=(Qep HV.out 2).trans rfl;have c3:wr.cell? ⟨g,3,none⟩=some (.int .u64 V.2.2.2):=(Qep HV.out 3).trans rfl
     go_region_held3 (fun w'=>w'.cell? ⟨g,0,none⟩=some (.int .u64 V.1)∧w'.cell? ⟨g,1,none⟩=some (.int .u64 V.2.1)∧w'.cell? ⟨g,2,none⟩=some (.int .u64 V.2.2.1)∧w'.cell? ⟨g,3,none⟩=some (.int .u64 V.2.2.2)) (go_keep) (first
      |(go_at_call_of 237 (Value.int .i64 1);refine(Quv V.1 1 1 rfl (by decide) _).mono ?_;rintro e w7 ⟨rfl,hd⟩;obtain⟨q1,rfl⟩:=hd.out;clear hd)
      |(go_at_call_of 237 (Value.int .i64 7);refine(Quv V.2.1 7 7 rfl (by decide) _).mono ?_;rintro e w7 ⟨rfl,hd⟩;obtain⟨q2,rfl⟩:=hd.out;clear hd)
      |(go_at_call_of 237 (Value.int .i64 12);refine(Quv V.2.2.1 12 12 rfl (by decide) _).mono ?_;rintro e w7 ⟨rfl,hd⟩;obtain⟨q3,rfl⟩:=hd.out;clear hd)
      |(go_at_call_of 237 (Value.int .i64 18);refine(Quv V.2.2.2 18 18 rfl (by decide) _).mono ?_;rintro e w7 ⟨rfl,hd⟩;obtain⟨q4,rfl⟩:=hd.out;clear hd))
     go_wp2_with fail
     go_meet
     case rel =>
      have hm0:m=0:=by have:=HM.out.1;omega
      have e5:=HM.out.2;rw[hm0]at e5;have e6:run3 (s0.size/16) (Quz sd) s0=(V,s):=by rw[← HVV.out];exact e5
      refine⟨_,s,rfl,rfl,hss,⟨?_⟩,Qdt HB.out _⟩;unfold Qvb;rw[if_pos o.out,e6];rfl
  ·have a:(s0.size:Int)<16:=by omega
   go_wp2_with fail
   go_meet
   case rel =>
    refine⟨_,s0,rfl,rfl,Nat.le_refl _,⟨?_⟩,Below.refl _ _⟩;unfold Qvb;rw[if_neg c]
 case rest =>
  obtain⟨h,s,hv1,hv5,hss,HH,hB⟩:=hcut;subst hv1 hv5;have HB:=QA hB;clear hB;have HD:=QA (show doc3 sd s0=Qve (Int.tmod (IntKind.u64.wrap (h+(s0.size:Int)%4294967296)) 4294967296) s by
   unfold doc3 Qvf Qvg;rw[← HH.out])
  clear HH
  go_upto_region 14 with fail
  go_loopw [1,5] (fun v1 v5 wr=>∃(m:Nat) (h':Int) (s':ByteArray),v1=.string s'∧v5=.int .u64 h'∧s'.size≤s0.size∧Aside0 (s'.size/4=m∧doc3 sd s0=Qve h' s')∧Aside0 (Below w.heap.size w wr))
   (fun v1 _ _=>Qnz v1)
  case atStart=>exact⟨_,_,s,rfl,rfl,hss,⟨rfl,HD.out⟩,HB⟩
  case round =>
   clear HD HB hss;obtain⟨m,h',s',rfl,rfl,hss,HM,HB⟩:=hrel
   by_cases h4:4≤s'.size
   ·have p:(4:Int)≤(s'.size:Int):=by omega
    have hx:(s'.extract 0 4).size≤1000:=Qvh s' 0 4 (by decide)
    go_wp2_with (first
     |(go_at_call 107;refine(Qob (s'.extract 0 4) hx _).mono ?_;rintro e w7 ⟨rfl,hd⟩;have hd1:=hd.below;clear hd)
     |(go_at_call 237;refine(Quv _ 17 17 rfl (by decide) _).mono ?_;rintro e w9 ⟨rfl,hd⟩;have hd3:=hd.below;clear hd))
    go_roundw
    case rel =>
     have hm:=HM.out;have hd:(s'.extract 4 s'.size).size=s'.size-4:=by rw[ByteArray.size_extract];omega
     refine⟨m-1,Qvc h' s',s'.extract 4 s'.size,rfl,rfl,by rw[hd];omega,⟨by rw[hd];omega,?_⟩,⟨Qdu (Qdu HB.out HB.out.size hd1) (Nat.le_trans HB.out.size hd1.size) hd3⟩⟩;rw[hm.2];unfold Qve;rw[hd,show s'.size/4=(s'.size-4)/4+1 by omega];rfl
    case measure=>simp[Qnz];omega
   ·have p:(s'.size:Int)<4:=by omega
    go_upto_region 18 with fail
    obtain⟨R,hR⟩:∃R,R=(bytesOf s').foldl one3 h':=⟨_,rfl⟩;have d:=QA hR;clear hR
    go_loopw [5,9] (fun v5 v9 wi=>∃(k:Nat) (iv x:Int),k≤s'.size∧v9=.int .i64 iv∧v5=.int .u64 x∧Aside0 (iv=(k:Int))∧Aside0 (((bytesOf s').drop k).foldl one3 x=R)∧Aside0 (Below wr.heap.size wr wi))
     (fun _ v9 _=>s'.size-(intOf v9).toNat)
    case atStart=>exact⟨0,0,_,Nat.zero_le _,rfl,rfl,⟨rfl⟩,⟨by rw[List.drop_zero];exact d.out.symm⟩,⟨Below.refl _ _⟩⟩
    case round =>
     obtain⟨k,iv,x,hk,rfl,rfl,HK,HX,HBi⟩:=hrel
     by_cases hlt:k<s'.size
     ·have j:0≤iv:=by have:=HK.out;omega
      have l:iv<(s'.size:Int):=by have:=HK.out;omega
      have hwi:IntKind.i64.wrap (iv+1)=iv+1:=IntWalk.i64_in _ (by omega);have r:=Qdq s' iv;have P22:=j;have Q22:=l;replace j:=eq_true j;replace l:=eq_true l
      go_wp2_with (go_at_call 237;refine(Quv _ 11 11 rfl (by decide) _).mono ?_;rintro e u ⟨rfl,hd⟩;have hd4:=hd.below;clear hd)
      go_roundw
      case rel=>exact⟨k+1,iv+1,one3 x (bt s' iv),by omega,rfl,rfl,⟨by have:=HK.out;omega⟩,⟨by
       have e1:iv=(k:Int):=HK.out;have hl:=Qec s';have e2:(bytesOf s').drop k=rd (bytesOf s') (k:Int) :: (bytesOf s').drop (k+1):=by
        rw[List.drop_eq_getElem_cons (by omega)];simp[rd,List.getD_eq_getElem?_getD,List.getElem?_eq_getElem (show k<(bytesOf s').length by omega)]
       have e3:=HX.out;rw[e2,List.foldl_cons,← e1,Qed]at e3;exact e3⟩,⟨Qdu HBi.out HBi.out.size hd4⟩⟩
      case measure=>simp[intOf];omega
     ·obtain rfl:k=s'.size:=by omega
      have e1:iv=_:=HK.out;subst e1;have hx:=HX.out;rw[List.drop_of_length_le (Nat.le_of_eq (Qec s'))]at hx;have hx':x=R:=hx;have hm:=HM.out;have hm0:m=0:=by omega
      have HE:=QA (show doc3 sd s0=fin3 x by
       rw[hm.2,hx',d.out];unfold Qve;rw[hm.1,hm0];rfl)
      clear hx hx' hm hm0 HX d HM
      go_wp2_with (first
       |(go_at_call_of 238 (Value.int .i64 15);refine(Qux _ 15 15 rfl (by decide) _).mono ?_;rintro e v1 ⟨rfl,hd⟩;have hd1:=hd.below;clear hd)
       |(go_at_call_of 238 (Value.int .i64 13);refine(Qux _ 13 13 rfl (by decide) _).mono ?_;rintro e v2 ⟨rfl,hd⟩;have hd2:=hd.below;clear hd)
       |(go_at_call_of 238 (Value.int .i64 16);refine(Qux _ 16 16 rfl (by decide) _).mono ?_;rintro e v3 ⟨rfl,hd⟩;have hd3:=hd.below;clear hd))
      go_ret
      have hA:=Qdu HB.out HB.out.size HBi.out;have hB1:=Qdu hA hA.size hd1;have hB2:=Qdu hB1 hB1.size hd2;exact⟨by rw[HE.out];rfl,Qdu hB2 hB2.size hd3⟩
end Go.Proofs.YtnnofopfbeklbaaGreat.C
end
section
namespace Go.Proofs
open Go.Shelf
def Tryz.sortEnt_ren:Go.Shelf.Ren:=⟨fun|6=>117|15=>164|14=>163|28=>213|29=>214|20=>205|21=>206|22=>207|23=>208|24=>209|25=>210|26=>211|27=>212|46=>227|47=>228|48=>229|49=>230|50=>231|57=>239|n=>n,fun|22=>106|24=>117|25=>186|3=>3|39=>223|0=>0|53=>22|55=>34|4=>4|46=>279|45=>278|50=>283|5=>5|9=>9|66=>300|70=>303|76=>310|77=>311|n=>n,fun|n=>n⟩
theorem Tryz.sortEnt:Go.Proofs.SlLaysF0.n6 Tryz.prog Tryz.sortEnt_ren:={
 mixed:=by kernel_rfl
 f6:=⟨Tryz.f117.name,by decide,Tryz.func117.trans (congrArg some (by kernel_rfl))⟩
 f14:=⟨Tryz.f163.name,by decide,Tryz.func163.trans (congrArg some (by kernel_rfl))⟩
 f15:=Tryz.func164.trans (congrArg some (by kernel_rfl))
 f20:=⟨Tryz.f205.name,by decide,Tryz.func205.trans (congrArg some (by kernel_rfl))⟩
 f21:=⟨Tryz.f206.name,by decide,Tryz.func206.trans (congrArg some (by kernel_rfl))⟩
 f22:=⟨Tryz.f207.name,by decide,Tryz.func207.trans (congrArg some (by kernel_rfl))⟩
 f23:=⟨Tryz.f208.name,by decide,Tryz.func208.trans (congrArg some (by kernel_rfl))⟩
 f24:=⟨Tryz.f209.name,by decide,Tryz.func209.trans (congrArg some (by kernel_rfl))⟩
 f25:=⟨Tryz.f210.name,by decide,Tryz.func210.trans (congrArg some (by kernel_rfl))⟩
 f26:=⟨Tryz.f211.name,by decide,Tryz.func211.trans (congrArg some (by kernel_rfl))⟩
 f27:=⟨Tryz.f212.name,by decide,Tryz.func212.trans (congrArg some (by kernel_rfl))⟩
 f28:=Tryz.func213.trans (congrArg some (by kernel_rfl))
 f29:=Tryz.func214.trans (congrArg some (by kernel_rfl))
 f46:=⟨Tryz.f227.name,by decide,Tryz.func227.trans (congrArg some (by kernel_rfl))⟩
 f47:=Tryz.func228.trans (congrArg some (by kernel_rfl))
 f48:=Tryz.func229.trans (congrArg some (by kernel_rfl))
 f49:=⟨Tryz.f230.name,by decide,Tryz.func230.trans (congrArg some (by kernel_rfl))⟩
 f50:=⟨Tryz.f231.name,by decide,Tryz.func231.trans (congrArg some (by kernel_rfl))⟩
 f57:=⟨Tryz.f239.name,by decide,Tryz.func239.trans (congrArg some (by kernel_rfl))⟩
 t0:=Tryz.underlying0
 a0:=Tryz.isAgg0
 z0:=Tryz.sizeOf0
 v0:=Tryz.zeroValue0
 t3:=Tryz.underlying3
 a3:=Tryz.isAgg3
 z3:=Tryz.sizeOf3
 v3:=Tryz.zeroValue3
 t4:=Tryz.underlying4
 a4:=Tryz.isAgg4
 z4:=Tryz.sizeOf4
 v4:=Tryz.zeroValue4
 t5:=Tryz.underlying5
 a5:=Tryz.isAgg5
 z5:=Tryz.sizeOf5
 v5:=Tryz.zeroValue5
 t9:=Tryz.underlying9
 a9:=Tryz.isAgg9
 z9:=Tryz.sizeOf9
 v9:=Tryz.zeroValue9
 t22:=Tryz.underlying106
 a22:=Tryz.isAgg106
 z22:=Tryz.sizeOf106
 v22:=Tryz.zeroValue106
 t25:=Tryz.underlying186
 a25:=Tryz.isAgg186
 z25:=Tryz.sizeOf186
 v25:=Tryz.zeroValue186
 t39:=Tryz.underlying223
 a39:=Tryz.isAgg223
 z39:=Tryz.sizeOf223
 v39:=Tryz.zeroValue223
 t45:=Tryz.underlying278
 a45:=Tryz.isAgg278
 z45:=Tryz.sizeOf278
 v45:=Tryz.zeroValue278
 t46:=Tryz.underlying279
 a46:=Tryz.isAgg279
 z46:=Tryz.sizeOf279
 v46:=Tryz.zeroValue279
 t50:=Tryz.underlying283
 a50:=Tryz.isAgg283
 z50:=Tryz.sizeOf283
 v50:=Tryz.zeroValue283
 t53:=Tryz.underlying22
 a53:=Tryz.isAgg22
 z53:=Tryz.sizeOf22
 v53:=Tryz.zeroValue22
 t55:=Tryz.underlying34
 a55:=Tryz.isAgg34
 z55:=Tryz.sizeOf34
 v55:=Tryz.zeroValue34
 t66:=Tryz.underlying300
 a66:=Tryz.isAgg300
 z66:=Tryz.sizeOf300
 v66:=Tryz.zeroValue300
 t70:=Tryz.underlying303
 a70:=Tryz.isAgg303
 z70:=Tryz.sizeOf303
 v70:=Tryz.zeroValue303
 t76:=Tryz.underlying310
 a76:=Tryz.isAgg310
 z76:=Tryz.sizeOf310
 v76:=Tryz.zeroValue310
 t77:=Tryz.underlying311
 a77:=Tryz.isAgg311
 z77:=Tryz.sizeOf311
 v77:=Tryz.zeroValue311 }
def Tryz.hasEnt_ren:Go.Shelf.Ren:=⟨fun|8=>161|6=>203|n=>n,fun|22=>106|23=>117|25=>233|4=>4|3=>3|0=>0|n=>n,fun|n=>n⟩
theorem Tryz.hasEnt:Go.Proofs.SlLaysH0.n8 Tryz.prog Tryz.hasEnt_ren:={
 mixed:=by kernel_rfl
 f6:=⟨Tryz.f203.name,by decide,Tryz.func203.trans (congrArg some (by kernel_rfl))⟩
 f8:=⟨Tryz.f161.name,by decide,Tryz.func161.trans (congrArg some (by kernel_rfl))⟩
 t0:=Tryz.underlying0
 a0:=Tryz.isAgg0
 z0:=Tryz.sizeOf0
 v0:=Tryz.zeroValue0
 t3:=Tryz.underlying3
 a3:=Tryz.isAgg3
 z3:=Tryz.sizeOf3
 v3:=Tryz.zeroValue3
 t4:=Tryz.underlying4
 a4:=Tryz.isAgg4
 z4:=Tryz.sizeOf4
 v4:=Tryz.zeroValue4
 t22:=Tryz.underlying106
 a22:=Tryz.isAgg106
 z22:=Tryz.sizeOf106
 v22:=Tryz.zeroValue106
 t25:=Tryz.underlying233
 a25:=Tryz.isAgg233
 z25:=Tryz.sizeOf233
 v25:=Tryz.zeroValue233 }
def Tryz.cloneEnt_ren:Go.Shelf.Ren:=⟨fun|41=>116|n=>n,fun|22=>106|23=>117|4=>4|n=>n,fun|n=>n⟩
theorem Tryz.cloneEnt:Go.Proofs.SlLaysE0.n41 Tryz.prog Tryz.cloneEnt_ren:={
 mixed:=by kernel_rfl
 f41:=⟨Tryz.f116.name,by decide,Tryz.func116.trans (congrArg some (by kernel_rfl))⟩
 t4:=Tryz.underlying4
 a4:=Tryz.isAgg4
 z4:=Tryz.sizeOf4
 v4:=Tryz.zeroValue4
 t22:=Tryz.underlying106
 a22:=Tryz.isAgg106
 z22:=Tryz.sizeOf106
 v22:=Tryz.zeroValue106 }
end Go.Proofs
end
