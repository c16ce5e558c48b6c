/- Merged texts. -/
import Derived.Test.YteaocbonofboeaaGreatMA19
import Derived.Test.YteaocbonofboeaaGreatMA13
import Derived.Test.YteaocbonofboeaaGreatMA09
import Derived.Test.YteaocbonofboeaaGreatMA10
import Derived.Test.YteaocbonofboeaaGreatMA14
import Derived.Test.YteaocbonofboeaaGreatMA15
import Derived.Test.YteaocbonofboeaaGreatMA02
import Derived.Test.YteaocbonofboeaaGreatMA18
set_option linter.unusedVariables false
set_option linter.unusedSimpArgs false
set_option maxHeartbeats 8000000
set_option maxRecDepth 100000
section
namespace Go.Proofs.YteaocbonofboeaaGreat.CodecP
open Go.RowKit Go.Proofs.YteaocbonofboeaaGreat.C Go.Proofs.YteaocbonofboeaaGreatW.PrintWords Go.Proofs.YteaocbonofboeaaGreatW.PrintLast Go.Proofs.YteaocbonofboeaaGreatW.PrintMore
theorem Qvk:∀(n:Nat) (b:List Int),b.length≤n→b.length<254→(Qmg b).length=b.length+1
 | n,b,hn,h=>by
  rcases Int.lt_or_le (ixOf (b.take 254) 0) 0 with h0|h0
  ·rw[Qml h0 (by omega)];simp
  ·obtain⟨p,hp⟩:=Int.eq_ofNat_of_zero_le h0;have h1:=(Qme (b.take 254) 0).2;rw[List.length_take,hp]at h1;rw[Qmj hp]
   match n,hn with
   | 0,hn=>omega
   | n+1,hn =>
    have ih:=Qvk n (b.drop (p+1)) qq_30 qq_30;rw[List.length_cons,List.length_append,ih,List.length_take,List.length_drop];omega
theorem Qvl:∀(n:Nat) (x y:Int),0≤x→x≤y→(vput n x).length≤(vput n y).length
 | 0,_,_,_,_=>by simp[vput]
 | n+1,x,y,h0,h=>by
  have ih:=Qvl n (x/128) (y/128) (by omega) (by omega);unfold vput
  by_cases hy:y<128
  ·rw[if_pos hy,if_pos (by omega)];simp
  ·rw[if_neg hy]
   by_cases hx:x<128
   ·rw[if_pos hx];simp
   ·rw[if_neg hx];simp;omega
def Qvm(e s n:Int):Int:=((Qoe e s n).length:Int)
theorem Qvn(e s n:Int):Qvm e s n=3+(vput 9 s).length+(vput 9 n).length+10:=by
 unfold Qvm Qoe Qnz;have h1:=Qmo 9 s;have h2:=Qmo 9 n;have hl:([1,2,e]++vput 9 s++vput 9 n++leb (Qnt 0 ([1,2,e]++vput 9 s++vput 9 n)) 8).length=3+(vput 9 s).length+(vput 9 n).length+8:=by
  rw[List.length_append,List.length_append,List.length_append,Qkp];rfl
 rw[List.length_append,Qvk _ _ (Nat.le_refl _) (by rw[hl];omega),hl];simp;omega
theorem Qvo(e s n:Int):0≤Qvm e s n∧Qvm e s n≤100:=by
 rw[Qvn];have h1:=Qmo 9 s;have h2:=Qmo 9 n;omega
theorem Qvp(e s:Int){n m:Int}(h0:0≤n)(h:n≤m):Qvm e s n≤Qvm e s m:=by
 rw[Qvn,Qvn];have:=Qvl 9 n m h0 h;omega
def Qvq(n:Int):Int:=9+12*n+8*((n+15)/16)+8+1+(9+12*n+8*((n+15)/16)+8-1)/254+1
def szN(e:Int):Int:=2^e.toNat
def Good(e s:Int):Prop:=12≤e∧e≤24∧1≤s∧s≤65536
theorem Qvr{e s:Int}(h:Good e s):Qap.f e s=some 0:=by
 obtain⟨h1,h2,h3,h4⟩:=h;unfold Qap.f;rw[if_neg (by omega),if_neg (by omega),if_neg (by omega),if_neg (by omega)]
theorem Qvs{e s:Int}(h:¬Good e s):Qap.f e s=some 1:=by
 unfold Qap.f
 by_cases h1:e<12
 ·rw[if_pos h1]
 by_cases h2:e > 24
 ·rw[if_neg h1,if_pos h2]
 by_cases h3:s<1
 ·rw[if_neg h1,if_neg h2,if_pos h3]
 by_cases h4:s > 65536
 ·rw[if_neg h1,if_neg h2,if_neg h3,if_pos h4]
 ·exact absurd ⟨by omega,by omega,by omega,by omega⟩ h
theorem Qvt{e s:Int}(h:Good e s):Qbs.f e s=some true:=by
 obtain⟨h1,h2,h3,h4⟩:=h;unfold Qbs.f;rw[if_pos (by omega),if_pos (by omega),if_pos (by omega)];simp[h4]
theorem may_bad{e s:Int}(h:¬Good e s):Qbs.f e s=some false:=by
 unfold Qbs.f
 by_cases h1:e≥12
 ·rw[if_pos h1]
  by_cases h2:e≤24
  ·rw[if_pos h2]
   by_cases h3:s≥1
   ·rw[if_pos h3];have h4:¬s≤65536:=fun h4=>h ⟨h1,h2,h3,h4⟩
    simp[h4]
   ·rw[if_neg h3]
  ·rw[if_neg h2]
 ·rw[if_neg h1]
theorem Qvu{e:Int}(h1:12≤e)(h2:e≤24):4096≤szN e∧szN e≤16777216:=by
 unfold szN;obtain⟨n,rfl⟩:=Int.eq_ofNat_of_zero_le (show 0≤e by omega);rw[Int.toNat_natCast];have h3:(2:Nat)^12≤2^n:=Nat.pow_le_pow_right (by omega) (by omega);have h4:(2:Nat)^n≤2^24:=Nat.pow_le_pow_right (by omega) (by omega);have h5:((2^n:Nat):Int)=(2:Int)^n:=by rw[Int.natCast_pow];rfl
 rw[← h5];omega
theorem Qvv{e s:Int}(h:Good e s):Qaq.f e s=some (szN e):=by
 have hr:=Qvu h.1 h.2.1;unfold Qaq.f;rw[Qvr h,Option.bind_some,if_pos rfl,if_pos (by have:=h.1;omega)]
 congr 1
 unfold shl;have hm:min e.toNat IntKind.i64.bits=e.toNat:=by simp[IntKind.bits];have:=h.2.1;omega
 rw[hm,Int.one_mul];exact IntWalk.i64_in _ (by unfold szN at hr;omega)
theorem Qvw:∀(d i k:Nat) (e:Int),(i:Int)+d=e→e≤24→d+1≤k→Qbt.l0 k (2^i) e (i:Int)=some (szN e)
 | 0,i,k,e,h,he,hk=>by
  obtain⟨k,rfl⟩:∃m,k=m+1:=⟨k-1,by omega⟩;unfold Qbt.l0;rw[if_neg (by omega)];unfold szN;rw[show e.toNat=i by omega]
 | d+1,i,k,e,h,he,hk=>by
  obtain⟨k,rfl⟩:∃m,k=m+1:=⟨k-1,by omega⟩;have ih:=Qvw d (i+1) k e (by omega) he (by omega);have hp:(2:Nat)^i≤2^24:=Nat.pow_le_pow_right (by omega) (by omega);have hp0:=Nat.two_pow_pos i;have h5:((2^i:Nat):Int)=(2:Int)^i:=by rw[Int.natCast_pow];rfl
  unfold Qbt.l0;rw[if_pos (by omega),← h5,IntWalk.u64_in _ (by omega),show(((i:Nat):Int)+1)%256=((i+1:Nat):Int)by omega,h5,show 2*(2:Int)^i=2^(i+1)by rw[Int.pow_succ];omega];exact ih
theorem Qvx{e s:Int}(h:Good e s)(k:Nat)(hk:30≤k):Qbt.f k e s=some (szN e):=by
 have:=Qvw e.toNat 0 k e (by have:=h.1;omega) h.2.1 (by have:=h.2.1;omega);exact this
theorem Qvy(c:Int)(h0:0≤c)(h1:c≤16777216):Qcg.f c=some (Qvq c):=by
 have hm:mx 0 c=c:=by unfold mx;split<;>omega
 have hf:Qcf.f c=some ((c+15)/16):=by
  unfold Qcf.f;rw[hm];have e1:wrap64 ((wrap64 (c+16))-1)=c+15:=by unfold wrap64;omega
  rw[e1,Int.tdiv_eq_ediv_of_nonneg (by omega)]
  congr 1
  unfold wrap64;omega
 have ha:wrap64 ((wrap64 (9+(wrap64 (12*c))))+(wrap64 (8*((c+15)/16))))=9+12*c+8*((c+15)/16):=by unfold wrap64;omega
 unfold Qcg.f;rw[hm,hf,Option.bind_some,ha];obtain⟨m,hmm⟩:∃m,m=9+12*c+8*((c+15)/16):=⟨_,rfl⟩;have hm0:0≤m:=by omega
 have hm1:m≤1000000000:=by omega
 unfold Qvq;rw[← hmm];clear hmm ha hf hm;have hx:mx 0 m=m:=by unfold mx;split<;>omega
 unfold Qcm.f Qam.f;rw[hx];have e1:wrap64 (m+8)=m+8:=by unfold wrap64;omega
 rw[e1,if_neg (by omega)];have e2:wrap64 (m+8-1)=m+8-1:=by unfold wrap64;omega
 rw[e2,Int.tdiv_eq_ediv_of_nonneg (by omega),Option.bind_some,Option.bind_some]
 congr 1
 unfold wrap64;omega
theorem Qvz(c:Int)(h0:0≤c)(h1:c≤16777216):Qbx.f c=some (Qvq c):=by
 have e0:wrap64 (Int.tdiv (wrap64 (c+15)) 16)=(c+15)/16:=by
  have e1:wrap64 (c+15)=c+15:=by unfold wrap64;omega
  rw[e1,Int.tdiv_eq_ediv_of_nonneg (by omega)];unfold wrap64;omega
 have ha:wrap64 ((wrap64 ((wrap64 (9+(wrap64 (12*c))))+(wrap64 (8*((c+15)/16)))))+8)=9+12*c+8*((c+15)/16)+8:=by unfold wrap64;omega
 unfold Qbx.f Qvq;rw[e0,ha];obtain⟨m,hmm⟩:∃m,m=9+12*c+8*((c+15)/16)+8:=⟨_,rfl⟩;have hm0:8≤m:=by omega
 have hm1:m≤1000000000:=by omega
 rw[← hmm];clear hmm ha e0;have e2:wrap64 (m-1)=m-1:=by unfold wrap64;omega
 rw[e2,Int.tdiv_eq_ediv_of_nonneg (by omega)]
 congr 1
 unfold wrap64;omega
theorem Qwa(c:Int)(h0:0≤c)(h1:c≤16777216):12*c≤Qvq c∧Qvq c≤1000000000:=by unfold Qvq;omega
def Qwb(e u c x:Int):Bool:=decide (1≤x∧u+x+Qvq (c+1)≤szN e)
theorem Qwc{e s:Int}(h:Good e s)(n u c x:Int)(hu0:0≤u)(hu1:u≤16777216)(hc0:0≤c)(hc1:c≤8388608)(hx1:x≤1152921504606846976):Qcu.f e s n u c x=some (Qwb e u c x):=by
 have hz:=Qvu h.1 h.2.1;have hm:=Qwa (c+1) (by omega) (by omega);unfold Qcu.f Qwb
 by_cases hx:x≥1
 ·rw[if_pos hx];unfold Qcv.f;rw[Qvv h,Option.bind_some,show wrap64 (c+1)=c+1 by unfold wrap64;omega,Qvy (c+1) (by omega) (by omega),Option.bind_some,Option.bind_some]
  congr 1
  have e1:wrap64 (wrap64 (szN e-u)-Qvq (c+1))=szN e-u-Qvq (c+1):=by unfold wrap64;omega
  rw[e1];unfold mx;rw[decide_eq_decide];split<;>omega
 ·rw[if_neg hx]
  congr 1
  symm
  rw[decide_eq_false_iff_not];omega
theorem Qwd{e s:Int}(h:Good e s)(k:Nat)(n u c x:Int)(hk:40≤k)(hu0:0≤u)(hu1:u≤16777216)(hc0:0≤c)(hc1:c≤8388608)(hx1:x≤1152921504606846976):Qbz.f k e s n u c x=some (Qwb e u c x):=by
 obtain⟨k,rfl⟩:∃m,k=m+1:=⟨k-1,by omega⟩;have hz:=Qvu h.1 h.2.1;have hm:=Qwa (c+1) (by omega) (by omega);have hj:∀b,Qbz.j0 (k+1) x b e s n u c=if b=true then some false else(Qbx.f (wrap64 (c+1))).bind fun t=>(Qbt.f k e s).bind fun z=>some (decide ((IntKind.u64.wrap (wrap64 ((wrap64 (u+x))+t)))≤z)):=fun _=>rfl
 unfold Qbz.f Qwb
 by_cases hx:x<1
 ·rw[if_pos hx,hj,if_pos rfl]
  congr 1
  symm
  rw[decide_eq_false_iff_not];omega
 ·rw[if_neg hx,Qvx h (k+1) (by omega),Option.bind_some,hj];rw[show IntKind.u64.wrap x=x from IntWalk.u64_in _ (by omega)]
  by_cases hb:x > szN e
  ·rw[if_pos (by simpa using hb)]
   congr 1
   symm
   rw[decide_eq_false_iff_not];omega
  ·rw[if_neg (by simpa using hb),show wrap64 (c+1)=c+1 by unfold wrap64;omega,Qvz (c+1) (by omega) (by omega),Option.bind_some,Qvx h k (by omega),Option.bind_some]
   congr 1
   have e1:wrap64 (wrap64 (u+x)+Qvq (c+1))=u+x+Qvq (c+1):=by unfold wrap64;omega
   rw[e1,IntWalk.u64_in _ (by omega),decide_eq_decide];omega
theorem Qwe{e u c x:Int}(h:Qwb e u c x=true):1≤x∧u+x+Qvq (c+1)≤szN e:=by simpa [Qwb]using h
theorem Qwf{e s:Int}(h:Good e s)(n u c x:Int)(hu0:0≤u)(hu1:u≤16777216)(hc0:0≤c)(hc1:c≤8388608)(hx1:x≤1152921504606846976)(hf:Qwb e u c x=true):Qcw.f e s n u c x=some (e,s,n,u+x,c+1,0):=by
 have hz:=Qvu h.1 h.2.1;have hm:=Qwa (c+1) (by omega) (by omega);obtain⟨f1,f2⟩:=Qwe hf;unfold Qcw.f;rw[Qwc h n u c x hu0 hu1 hc0 hc1 hx1,Option.bind_some,hf,if_pos rfl,show wrap64 (u+x)=u+x by unfold wrap64;omega,show wrap64 (c+1)=c+1 by unfold wrap64;omega]
theorem Qwg(e s n u c x:Int)(hu0:0≤u)(hu1:u≤16777216)(hc0:0≤c)(hc1:c≤8388608)(hx0:0≤x)(hx1:x≤16777216):Qcb.f e s n u c x=some (e,s,n,u+x,c+1):=by
 unfold Qcb.f;rw[show wrap64 (u+x)=u+x by unfold wrap64;omega,show wrap64 (c+1)=c+1 by unfold wrap64;omega]
theorem Qwh{e s:Int}(h:Good e s)(n:Int)(h0:0≤n)(h1:n<s):Qcj.f e s n=some (Qoe e s n,0):=by
 obtain⟨a,b,c,d⟩:=h;unfold Qcj.f Qcn.f;rw[Qvr ⟨a,b,c,d⟩,Option.bind_some,if_pos rfl,if_neg (by omega),Option.bind_some,if_pos rfl,if_pos ⟨by omega,by omega,by omega,by omega,by omega,by omega⟩]
theorem Qwi{e s:Int}(h:Good e s)(n:Int)(h0:0≤n)(h1:n<s):Qcs.f e s n=some (e,s,n,Qvm e s n,0,0):=by
 unfold Qcs.f;rw[Qwh h n h0 h1,Option.bind_some,if_pos rfl];rfl
theorem Qwj{e s:Int}(h:Good e s)(n:Int)(h1:s≤n):Qcs.f e s n=some (0,0,0,0,0,1):=by
 unfold Qcs.f Qcj.f Qcn.f;rw[Qvr h,Option.bind_some,if_pos rfl,if_pos (by omega),Option.bind_some,if_neg (by decide),Option.bind_some,if_neg (by decide)]
theorem Qwk{e s:Int}(h:Good e s)(k:Nat)(n:Int)(h0:0≤n)(h1:n<s)(hk:300≤k):Qby.f k e s n=some (e,s,n,Qvm e s n,0):=by
 obtain⟨a,b,c,d⟩:=h;obtain⟨t,ht,hb⟩:=Qvj k e s n (by omega) (by omega) (by omega) (by omega) h0 (by omega) hk;unfold Qby.f;rw[ht,Option.bind_some,Qrt,hb];rfl
def Qwl(e s:Int):List Int→List Int→Int→Int→Int→List Int × Int
 | [],out,_,_,_=>(out,0)
 | x :: t,out,n,u,c =>
  if Qwb e (Qvm e s (s-1)) 0 x=false then([],6)
  else if Qwb e u c x=true then Qwl e s t (out++[n]) n (u+x) (c+1)
  else if n+1<s then Qwl e s t (out++[n+1]) (n+1) (Qvm e s (n+1)+x) 1
  else([],7)
theorem Qwm{e s:Int}(h:Good e s){n x:Int}(h0:0≤n)(h1:n≤s-1)(hf:Qwb e (Qvm e s (s-1)) 0 x=true):Qwb e (Qvm e s n) 0 x=true:=by
 obtain⟨f1,f2⟩:=Qwe hf;have:=Qvp e s h0 h1;simp only[Qwb,decide_eq_true_eq];omega
theorem Qwn{l:List Int}{i:Nat}(h:i<l.length):l.drop i=rd l (i:Int) :: l.drop (i+1):=by rw[List.drop_eq_getElem_cons h,rd_get h]
theorem Qwo{e s:Int}(h:Good e s){u c x:Int}(hc0:0≤c)(hc1:c≤8388608)(hu0:0≤u)(hf:Qwb e u c x=true):0≤u+x∧u+x≤16777216∧0≤c+1∧c+1≤8388608:=by
 have hz:=Qvu h.1 h.2.1;have hm:=Qwa (c+1) (by omega) (by omega);obtain⟨f1,f2⟩:=Qwe hf;omega
theorem Qwp{e s:Int}(h:Good e s)(l:List Int)(hl:l.length≤1000000)(hx:∀x∈l,x≤1152921504606846976):∀(d i k:Nat) (out:List Int) (n u c:Int),i+d=l.length→out.length=i→0≤n→n<s→0≤u→u≤16777216→0≤c→c≤8388608→d+1≤k →
  Qct.l0 k out l (l.length:Int) (i:Int) e s e s n u c e s (s-1) (Qvm e s (s-1)) 0=some (Qwl e s (l.drop i) out n u c)
 | 0,i,k,out,n,u,c,hi,ho,hn0,hn1,hu0,hu1,hc0,hc1,hk=>by
  obtain⟨k,rfl⟩:∃m,k=m+1:=⟨k-1,by omega⟩;rw[List.drop_of_length_le (by omega)];unfold Qct.l0;rw[if_neg (by omega)];rfl
 | d + 1,i,k,out,n,u,c,hi,ho,hn0,hn1,hu0,hu1,hc0,hc1,hk=>by
  obtain⟨k,rfl⟩:∃m,k=m+1:=⟨k-1,by omega⟩;have hg:=h;obtain⟨a1,a2,a3,a4⟩:=h;have hil:i<l.length:=by omega
  have hxi:rd l (i:Int)≤1152921504606846976:=by rw[rd_get hil];exact hx _ (List.getElem_mem hil)
  have hH:=Qvo e s (s-1);rw[Qwn hil];unfold Qct.l0;rw[if_pos (by omega),if_pos (by omega),if_pos (by omega),Quy i (by omega)];generalize hxx:rd l (i:Int)=x at *;rw[Qwc hg (s-1) (Qvm e s (s-1)) 0 x hH.1 (by omega) (by omega) (by omega) hxi,Option.bind_some];unfold Qwl
  by_cases hf:Qwb e (Qvm e s (s-1)) 0 x=false
  ·rw[hf,if_neg (by decide),if_pos rfl]
  ·have hft:Qwb e (Qvm e s (s-1)) 0 x=true:=by simpa using hf
   rw[if_neg hf,if_pos hft,Qwc hg n u c x hu0 hu1 hc0 hc1 hxi,Option.bind_some]
   by_cases hq:Qwb e u c x=true
   ·have haf:=Qwo hg hc0 hc1 hu0 hq;rw[if_pos hq,if_pos hq,Qwf hg n u c x hu0 hu1 hc0 hc1 hxi hq,Option.bind_some,if_pos (by omega)];exact Qwp hg l hl hx d (i+1) k (out++[n]) n (u+x) (c+1) (by omega) (by rw[List.length_append,ho];rfl) hn0 hn1 haf.1 haf.2.1 haf.2.2.1 haf.2.2.2 (by omega)
   ·rw[if_neg hq,if_neg hq,show(n+1)%4294967296=n+1 by omega]
    by_cases hs:n+1<s
    ·have hfn:=Qwm hg (show 0≤n+1 by omega) (by omega) hft;have hHn:=Qvo e s (n+1);have haf:=Qwo hg (Int.le_refl 0) (by omega) hHn.1 hfn;rw[if_pos hs,Qwi hg (n+1) (by omega) hs,Option.bind_some,if_pos rfl,Qwf hg (n+1) (Qvm e s (n+1)) 0 x hHn.1 (by omega) (by omega) (by omega) hxi hfn,Option.bind_some,if_pos (by omega)];exact Qwp hg l hl hx d (i+1) k (out++[n+1]) (n+1) (Qvm e s (n+1)+x) 1 (by omega) (by rw[List.length_append,ho];rfl) (by omega) hs haf.1 haf.2.1 (by omega) (by omega) (by omega)
    ·rw[if_neg hs,Qwj hg (n+1) (by omega),Option.bind_some,if_neg (by decide)]
theorem Qwq{e s:Int}(h:Good e s)(l:List Int)(k:Nat)(hl:l.length≤1000000)(hx:∀x∈l,x≤1152921504606846976)(hk:l.length+1≤k):Qct.f k e s l=some (Qwl e s l [] 0 (Qvm e s 0) 0):=by
 have hg:=h;obtain⟨a1,a2,a3,a4⟩:=h;have hH:=Qvo e s 0;unfold Qct.f;rw[Qwi hg 0 (by omega) (by omega),Option.bind_some,if_pos rfl,show(s-1)%4294967296=s-1 by omega,Qwi hg (s-1) (by omega) (by omega),Option.bind_some];exact Qwp hg l hl hx l.length 0 k [] 0 (Qvm e s 0) 0 (by omega) rfl (by omega) (by omega) hH.1 (by omega) (by omega) (by omega) hk
theorem Qwr{e s:Int}(h:Good e s)(l:List Int)(hl:l.length≤1000000)(hx:∀x∈l,x≤1152921504606846976):∀(d i k:Nat) (out:List Int) (n u c:Int),i+d=l.length→out.length=i→0≤n→n<s→0≤u→u≤16777216→0≤c→c≤8388608→d+400≤k →
  Qca.l0 k out l (l.length:Int) (i:Int) e s e s n u c e s (s-1) (Qvm e s (s-1)) 0=some (Qwl e s (l.drop i) out n u c)
 | 0,i,k,out,n,u,c,hi,ho,hn0,hn1,hu0,hu1,hc0,hc1,hk=>by
  obtain⟨k,rfl⟩:∃m,k=m+1:=⟨k-1,by omega⟩;rw[List.drop_of_length_le (by omega)];unfold Qca.l0;rw[if_neg (by omega)];rfl
 | d + 1,i,k,out,n,u,c,hi,ho,hn0,hn1,hu0,hu1,hc0,hc1,hk=>by
  obtain⟨k,rfl⟩:∃m,k=m+1:=⟨k-1,by omega⟩;have hg:=h;obtain⟨a1,a2,a3,a4⟩:=h;have hil:i<l.length:=by omega
  have hxi:rd l (i:Int)≤1152921504606846976:=by rw[rd_get hil];exact hx _ (List.getElem_mem hil)
  have hH:=Qvo e s (s-1);have hz:=Qvu a1 a2;rw[Qwn hil];unfold Qca.l0;rw[if_pos (by omega),if_pos (by omega),if_pos (by omega),Quy i (by omega)];generalize hxx:rd l (i:Int)=x at *;rw[Qwd hg k (s-1) (Qvm e s (s-1)) 0 x (by omega) hH.1 (by omega) (by omega) (by omega) hxi,Option.bind_some];unfold Qwl
  by_cases hf:Qwb e (Qvm e s (s-1)) 0 x=false
  ·rw[hf,if_neg (by decide),if_pos rfl]
  ·have hft:Qwb e (Qvm e s (s-1)) 0 x=true:=by simpa using hf
   have a:0≤x∧x≤16777216:=by
    have h1:=Qwe hft;have h2:=Qwa (0+1) (by omega) (by omega);omega
   rw[if_neg hf,if_pos hft,Qwd hg k n u c x (by omega) hu0 hu1 hc0 hc1 hxi,Option.bind_some]
   by_cases hq:Qwb e u c x=true
   ·have haf:=Qwo hg hc0 hc1 hu0 hq;rw[if_pos hq,if_pos hq,Qwg e s n u c x hu0 hu1 hc0 hc1 a.1 a.2,Option.bind_some,if_pos (by omega)];exact Qwr hg l hl hx d (i+1) k (out++[n]) n (u+x) (c+1) (by omega) (by rw[List.length_append,ho];rfl) hn0 hn1 haf.1 haf.2.1 haf.2.2.1 haf.2.2.2 (by omega)
   ·rw[if_neg hq,if_neg hq,IntWalk.u64_in (n+1) (by omega),IntWalk.u64_in s (by omega)]
    by_cases hs:n+1<s
    ·have hfn:=Qwm hg (show 0≤n+1 by omega) (by omega) hft;have hHn:=Qvo e s (n+1);have haf:=Qwo hg (Int.le_refl 0) (by omega) hHn.1 hfn;rw[if_pos hs,if_neg (by omega),Qwk hg k (n+1) (by omega) hs (by omega),Option.bind_some,Qwg e s (n+1) (Qvm e s (n+1)) 0 x hHn.1 (by omega) (by omega) (by omega) a.1 a.2,Option.bind_some,if_pos (by omega)];exact Qwr hg l hl hx d (i+1) k (out++[n+1]) (n+1) (Qvm e s (n+1)+x) 1 (by omega) (by rw[List.length_append,ho];rfl) (by omega) hs haf.1 haf.2.1 (by omega) (by omega) (by omega)
    ·rw[if_neg hs,if_pos (by omega)]
theorem Qws{e s:Int}(h:Good e s)(l:List Int)(k:Nat)(hl:l.length≤1000000)(hx:∀x∈l,x≤1152921504606846976)(hk:l.length+400≤k):Qca.f k e s l=some (Qwl e s l [] 0 (Qvm e s 0) 0):=by
 have hg:=h;obtain⟨a1,a2,a3,a4⟩:=h;have hH:=Qvo e s 0;unfold Qca.f;rw[Qvt hg,Option.bind_some,if_pos rfl,Qwk hg k 0 (by omega) (by omega) (by omega),Option.bind_some,IntWalk.u64_in s (by omega),IntWalk.u64_in (s-1) (by omega),Qwk hg k (s-1) (by omega) (by omega) (by omega),Option.bind_some];exact Qwr hg l hl hx l.length 0 k [] 0 (Qvm e s 0) 0 (by omega) rfl (by omega) (by omega) hH.1 (by omega) (by omega) (by omega) hk
theorem rdR(l:List Rec)(i:Nat)(h:i<l.length):Qjw l (i:Int)=l[i]:=by simp[Qjw,List.getElem?_eq_getElem h]
def chkR(r:Rec):Int:=chk r.f0 r.f2 r.f3
def chkL:List Rec→Int
 | []=>0
 | r :: t=>if chkR r=0 then chkL t else chkR r
def ordL:List Rec→Int
 | []=>0
 | [_]=>0
 | a :: b :: t=>if b.f1≤a.f1 then 8 else ordL (b :: t)
def risL(l:List Rec):Int:=if chkL l=0 then ordL l else chkL l
theorem Qwt{l:List Rec}(h:chkL l=0):∀r∈l,chkR r=0:=by
 induction l with
 | nil=>intro r hr;cases hr
 | cons a t ih =>
  unfold chkL at h
  by_cases ha:chkR a=0
  ·rw[if_pos ha]at h;intro r hr
   rcases List.mem_cons.1 hr with rfl|hr
   ·exact ha
   ·exact ih h r hr
  ·rw[if_neg ha]at h;exact absurd h ha
theorem check_k(k:Nat)(d:Bool)(s:Int)(key v:ByteArray)(hk:1≤k):Qcz.f k d s key v=some (chk d key v) :=
 Qeb (g:=fun k=>Qcz.f k d s key v) (Qcz.mono d s key v) hk (Qmy d s key v)
theorem nil_ne(v:ByteArray):(v.toList != ([]:List UInt8))=decide ((v.size:Int) > 0):=by
 rw[Bool.eq_iff_iff,bne_iff_ne,decide_eq_true_iff,Ne,Qux];omega
theorem Qwu(k:Nat)(d:Bool)(s:Int)(key v:ByteArray)(hk:1≤k):Qbq.f k d s key v=some (chk d key v):=by
 obtain⟨k,rfl⟩:∃m,k=m+1:=⟨k-1,by omega⟩;unfold Qbq.f chk
 by_cases h0:key.toList=([]:List UInt8)
 ·rw[if_pos h0,if_pos (by have:=(Qux key).1 h0;omega)]
 ·rw[if_neg h0,if_neg (by intro h;exact h0 ((Qux key).2 (by omega)))]
  by_cases h1:(key.size:Int) > 4096
  ·rw[if_pos h1,if_pos h1]
  ·rw[if_neg h1,if_neg h1,nil_ne]
   cases d
   ·simp only[Bool.false_eq_true,if_false,Bool.false_and,Qbq.j0];split<;>rfl
   ·simp only[if_true,Bool.true_and,Qbq.j0];split
    ·rfl
    ·split<;>rfl
theorem Qwv{l:List Rec}{i:Nat}(h:i+1<l.length):ordL (l.drop i)=if l[i+1].f1≤l[i].f1 then 8 else ordL (l.drop (i+1)):=by
 rw[List.drop_eq_getElem_cons (by omega),List.drop_eq_getElem_cons h];rfl
theorem Qww{l:List Rec}(h:l.length≤1):ordL l=0:=by
 match l,h with
 | [],_=>rfl
 | [_],_=>rfl
theorem Qwx(l:List Rec)(hl:l.length≤4611686018427387903):∀(d i k:Nat),i+d=l.length→d+1≤k→Qdb.l1 k l ((i+1:Nat):Int)=some (ordL (l.drop i))
 | 0,i,k,h,hk=>by
  obtain⟨k,rfl⟩:∃m,k=m+1:=⟨k-1,by omega⟩;unfold Qdb.l1;rw[if_neg (by omega),Qww qq_30]
 | d+1,i,k,h,hk=>by
  obtain⟨k,rfl⟩:∃m,k=m+1:=⟨k-1,by omega⟩;unfold Qdb.l1
  by_cases hi:i+1<l.length
  ·have w1:=Quz (i+1) (by omega) (by omega);rw[Nat.add_sub_cancel]at w1;rw[if_pos (by omega),if_pos (by omega),w1,if_pos (by omega),if_pos (by omega),rdR l (i+1) hi,rdR l i (by omega),Qwv hi]
   by_cases ho:l[i+1].f1≤l[i].f1
   ·rw[if_pos ho,if_pos ho]
   ·rw[if_neg ho,if_neg ho,Quy (i+1) (by omega)];exact Qwx l hl d (i+1) k (by omega) (by omega)
  ·rw[if_neg (by omega),Qww qq_30]
theorem Qwy(l:List Rec)(hl:l.length≤4611686018427387903):∀(d i k:Nat),i+d=l.length→d+l.length+5≤k→Qdb.l0 k l l (l.length:Int) (i:Int)=some (if chkL (l.drop i)=0 then ordL l else chkL (l.drop i))
 | 0,i,k,h,hk=>by
  obtain⟨k,rfl⟩:∃m,k=m+1:=⟨k-1,by omega⟩;unfold Qdb.l0;rw[if_neg (by omega),List.drop_of_length_le (by omega)];exact Qwx l hl l.length 0 k (by omega) (by omega)
 | d+1,i,k,h,hk=>by
  obtain⟨k,rfl⟩:∃m,k=m+1:=⟨k-1,by omega⟩;have hi:i<l.length:=by omega
  unfold Qdb.l0;rw[if_pos (by omega),if_pos (by omega),if_pos (by omega),rdR l i hi,check_k k _ _ _ _ (by omega),Option.bind_some,List.drop_eq_getElem_cons hi];unfold chkL
  by_cases hc:chkR l[i]=0
  ·rw[if_pos hc,if_pos (show chk l[i].f0 l[i].f2 l[i].f3=0 from hc),Quy i (by omega)];exact Qwy l hl d (i+1) k (by omega) (by omega)
  ·rw[if_neg hc,if_neg (show ¬chk l[i].f0 l[i].f2 l[i].f3=0 from hc),if_neg hc];rfl
theorem Qwz(l:List Rec)(k:Nat)(hl:l.length≤4611686018427387903)(hk:2*l.length+5≤k):Qdb.f k l=some (risL l) :=
 Qwy l hl l.length 0 k (by omega) (by omega)
theorem Qxa(l:List Rec)(hl:l.length≤4611686018427387903):∀(d i k:Nat),i+d=l.length→d+1≤k→Qbr.l1 k l l (l.length:Int) ((i+1:Nat):Int)=some (ordL (l.drop i))
 | 0,i,k,h,hk=>by
  obtain⟨k,rfl⟩:∃m,k=m+1:=⟨k-1,by omega⟩;unfold Qbr.l1;rw[if_neg (by omega),Qww qq_30]
 | d+1,i,k,h,hk=>by
  obtain⟨k,rfl⟩:∃m,k=m+1:=⟨k-1,by omega⟩;unfold Qbr.l1
  by_cases hi:i+1<l.length
  ·have w1:=Quz (i+1) (by omega) (by omega);rw[Nat.add_sub_cancel]at w1;rw[if_pos (by omega),if_pos (by omega),if_pos (by omega),if_pos (by omega),w1,if_pos (by omega),if_pos (by omega),rdR l (i+1) hi,rdR l i (by omega),Qwv hi]
   by_cases ho:l[i+1].f1≤l[i].f1
   ·rw[if_pos ho,if_pos ho]
   ·rw[if_neg ho,if_neg ho,Quy (i+1) (by omega)];exact Qxa l hl d (i+1) k (by omega) (by omega)
  ·rw[if_neg (by omega),Qww qq_30]
theorem Qxb(l:List Rec)(hl:l.length≤4611686018427387903)(k:Nat)(hk:l.length+3≤k):Qbr.l1 k l l (l.length:Int) 0=some (ordL l):=by
 obtain⟨k,rfl⟩:∃m,k=m+1:=⟨k-1,by omega⟩;unfold Qbr.l1
 by_cases h0:(0:Int)<(l.length:Int)
 ·rw[if_pos h0,if_pos (by omega),if_pos h0,if_neg (by omega),show wrap64 (0+1)=((0+1:Nat):Int)by unfold wrap64;omega];exact Qxa l hl l.length 0 k (by omega) (by omega)
 ·rw[if_neg h0,Qww (by omega)]
theorem Qxc(l:List Rec)(hl:l.length≤4611686018427387903):∀(d i k:Nat),i+d=l.length→d+l.length+5≤k→Qbr.l0 k l l (l.length:Int) (i:Int)=some (if chkL (l.drop i)=0 then ordL l else chkL (l.drop i))
 | 0,i,k,h,hk=>by
  obtain⟨k,rfl⟩:∃m,k=m+1:=⟨k-1,by omega⟩;unfold Qbr.l0;rw[if_neg (by omega),List.drop_of_length_le (by omega)];exact Qxb l hl k (by omega)
 | d+1,i,k,h,hk=>by
  obtain⟨k,rfl⟩:∃m,k=m+1:=⟨k-1,by omega⟩;have hi:i<l.length:=by omega
  unfold Qbr.l0;rw[if_pos (by omega),if_pos (by omega),if_pos (by omega),rdR l i hi,Qwu k _ _ _ _ (by omega),Option.bind_some,List.drop_eq_getElem_cons hi];unfold chkL
  by_cases hc:chkR l[i]=0
  ·rw[if_pos hc,if_pos (show chk l[i].f0 l[i].f2 l[i].f3=0 from hc),Quy i (by omega)];exact Qxc l hl d (i+1) k (by omega) (by omega)
  ·rw[if_neg hc,if_neg (show ¬chk l[i].f0 l[i].f2 l[i].f3=0 from hc),if_neg hc];rfl
theorem ris_ref(l:List Rec)(k:Nat)(hl:l.length≤4611686018427387903)(hk:2*l.length+5≤k):Qbr.f k l=some (risL l) :=
 Qxc l hl l.length 0 k (by omega) (by omega)
def Qxd(r:Rec):List Int:=Qnz (Qna r.f0 r.f1 r.f2 r.f3)
def fsz(r:Rec):Int:=((Qxd r).length:Int)
def Wf(l:List Rec):Prop:=∀r∈l,0≤r.f1∧r.f1<18446744073709551616
theorem Qxe(d:Bool)(s:Int)(key v:ByteArray):(Qna d s key v).length≤key.size+v.size+31:=by
 have h1:=Qmo 9 s;have h2:=Qmo 9 (key.size:Int);have h3:=Qmo 9 (v.size:Int);have h4:=Qdv key;have h5:=Qdv v
 cases d
 ·simp only[Qna,List.length_append,List.length_cons,List.length_nil,Bool.false_eq_true,if_false];omega
 ·simp only[Qna,List.length_append,List.length_cons,List.length_nil,if_true];omega
theorem Qxf(b:List Int):0<(Qnz b).length∧(Qnz b).length≤2*b.length+18:=by
 have h:=Qoa _ (b++leb (Qnt 0 b) 8) (Nat.le_refl _);rw[List.length_append,Qkp]at h;unfold Qnz;rw[List.length_append];simp;omega
theorem Qxg(r:Rec)(hc:chkR r=0):1≤fsz r∧fsz r≤8388608:=by
 have h1:=Qmz hc;have h2:=Qxe r.f0 r.f1 r.f2 r.f3;have h3:=Qxf (Qna r.f0 r.f1 r.f2 r.f3);unfold fsz Qxd;omega
theorem Qxh(r:Rec)(hc:chkR r=0)(h0:0≤r.f1)(h1:r.f1<18446744073709551616):Qck.f r.f0 r.f1 r.f2 r.f3=some (Qxd r,0):=by
 have h2:=Qmz hc;have h3:=Qxe r.f0 r.f1 r.f2 r.f3;unfold Qck.f Qcy.f;rw[if_pos h0,if_pos h1,if_pos (show chk r.f0 r.f2 r.f3=0 from hc),Option.bind_some,if_pos rfl];unfold Qcl.f;rw[if_pos (by dsimp only;omega),Option.bind_some];rfl
def Qxi(e s:Int)(l:List Rec):List Int × Int:=Qwl e s (l.map fsz) [] 0 (Qvm e s 0) 0
theorem Qxj{l:List Rec}{i:Nat}(h:i<l.length):(l.take (i+1)).map fsz=(l.take i).map fsz++[fsz l[i]]:=by rw[List.take_succ_eq_append_getElem h,List.map_append];rfl
theorem Qxk{e s:Int}(h:Good e s)(l:List Rec)(hl:l.length≤1000000)(hw:Wf l)(hc:chkL l=0):∀(d i k:Nat),i+d=l.length→d+l.length+5≤k →
  Qcr.l0 k ((l.take i).map fsz) l (l.length:Int) (i:Int) e s=some ((Qxi e s l).1,l.map fsz,(Qxi e s l).2)
 | 0,i,k,hi,hk=>by
  obtain⟨k,rfl⟩:∃m,k=m+1:=⟨k-1,by omega⟩;unfold Qcr.l0;rw[if_neg (by omega),List.take_of_length_le (by omega),Qwq h (l.map fsz) k (by rw[List.length_map];exact hl) (fun x hx=>by
   obtain⟨r,hr,rfl⟩:=List.mem_map.1 hx;have:=Qxg r (Qwt hc r hr);omega) (by rw[List.length_map];omega),Option.bind_some]
  rfl
 | d+1,i,k,hi,hk=>by
  obtain⟨k,rfl⟩:∃m,k=m+1:=⟨k-1,by omega⟩;have hil:i<l.length:=by omega
  have hr:=List.getElem_mem hil;have hln:((l.take i).map fsz).length=i:=by rw[List.length_map,List.length_take];omega
  unfold Qcr.l0;rw[if_pos (by omega),if_pos (by omega),if_pos (by omega),rdR l i hil,Qxh l[i] (Qwt hc _ hr) (hw _ hr).1 (hw _ hr).2,Option.bind_some,if_pos (by omega),Quy i (by omega)];have:=Qxk h l hl hw hc d (i+1) k (by omega) (by omega);rw[Qxj hil]at this;exact this
def Qxl(e s:Int)(l:List Rec):List Int × List Int × Int:=if 12≤e∧e≤24∧1≤s∧s≤65536 then if risL l=0 then((Qxi e s l).1,l.map fsz,(Qxi e s l).2)else([],[],risL l)else([],[],1)
theorem Qxm{l:List Rec}(h:risL l=0):chkL l=0:=by
 unfold risL at h
 by_cases hc:chkL l=0
 ·exact hc
 ·rw[if_neg hc]at h;exact h
theorem Qxn(e s:Int)(l:List Rec)(k:Nat)(hl:l.length≤1000000)(hw:Wf l)(hk:2*l.length+10≤k):Qcr.f k e s l=some (Qxl e s l):=by
 unfold Qcr.f Qxl
 by_cases hg:12≤e∧e≤24∧1≤s∧s≤65536
 ·rw[Qvr hg,Option.bind_some,if_pos rfl,if_pos hg,Qwz l k (by omega) (by omega),Option.bind_some]
  by_cases hr:risL l=0
  ·rw[if_pos hr,if_pos hr];exact Qxk hg l hl hw (Qxm hr) l.length 0 k (by omega) (by omega)
  ·rw[if_neg hr,if_neg hr]
 ·rw[Qvs hg,Option.bind_some,if_neg (by decide),if_neg hg]
theorem Qxo{e s:Int}(h:Good e s)(l:List Rec)(hl:l.length≤1000000)(hw:Wf l)(hc:chkL l=0):∀(d i k:Nat),i+d=l.length→d+l.length+2200000≤k →
  Qcc.l0 k ((l.take i).map fsz) l (l.length:Int) (i:Int) e s=some ((Qxi e s l).1,(Qxi e s l).2)
 | 0,i,k,hi,hk=>by
  obtain⟨k,rfl⟩:∃m,k=m+1:=⟨k-1,by omega⟩;unfold Qcc.l0;rw[if_neg (by omega),List.take_of_length_le (by omega),Qws h (l.map fsz) k (by rw[List.length_map];exact hl) (fun x hx=>by
   obtain⟨r,hr,rfl⟩:=List.mem_map.1 hx;have:=Qxg r (Qwt hc r hr);omega) (by rw[List.length_map];omega),Option.bind_some]
  rfl
 | d+1,i,k,hi,hk=>by
  obtain⟨k,rfl⟩:∃m,k=m+1:=⟨k-1,by omega⟩;have hil:i<l.length:=by omega
  have hr:=List.getElem_mem hil;have hz:=Qmz (Qwt hc _ hr);have hln:((l.take i).map fsz).length=i:=by rw[List.length_map,List.length_take];omega
  obtain⟨t,ht,hb⟩:=Qvi k l[i].f0 l[i].f1 l[i].f2 l[i].f3 (hw _ hr).1 (hw _ hr).2 (by omega) (by omega) (by omega);have hts:(t.size:Int)=fsz l[i]:=by rw[Qrt,hb];rfl
  unfold Qcc.l0;rw[if_pos (by omega),if_pos (by omega),if_pos (by omega),rdR l i hil,ht,Option.bind_some,if_pos (by omega),Quy i (by omega),hts];have:=Qxo h l hl hw hc d (i+1) k (by omega) (by omega);rw[Qxj hil]at this;exact this
theorem Qxp(e s:Int)(l:List Rec)(k:Nat)(hl:l.length≤1000000)(hw:Wf l)(hk:2*l.length+2200010≤k):Qcc.f k e s l=some ((Qxl e s l).1,(Qxl e s l).2.2):=by
 unfold Qcc.f Qxl
 by_cases hg:12≤e∧e≤24∧1≤s∧s≤65536
 ·rw[Qvt hg,Option.bind_some,if_pos rfl,if_pos hg,ris_ref l k (by omega) (by omega),Option.bind_some]
  by_cases hr:risL l=0
  ·rw[if_pos hr,if_pos hr];exact Qxo hg l hl hw (Qxm hr) l.length 0 k (by omega) (by omega)
  ·rw[if_neg hr,if_neg hr]
 ·rw[may_bad hg,Option.bind_some,if_neg (by decide),if_neg hg]
theorem Qxq(e s:Int):∀(l out:List Int) (n u c:Int),0≤n→n<s→(∀x∈out,0≤x∧x<s)→(Qwl e s l out n u c).2=0 →
  (Qwl e s l out n u c).1.length=out.length+l.length∧∀x∈(Qwl e s l out n u c).1,0≤x∧x<s
 | [],out,n,u,c,h0,h1,ho,h=>⟨by simp[Qwl],ho⟩
 | x :: t,out,n,u,c,h0,h1,ho,h=>by
  unfold Qwl at h ⊢
  by_cases hf:Qwb e (Qvm e s (s-1)) 0 x=false
  ·rw[if_pos hf]at h;cases h
  ·rw [if_neg hf]at h ⊢
   by_cases hq:Qwb e u c x=true
   ·rw[if_pos hq]at h ⊢;have:=Qxq e s t (out++[n]) n (u+x) (c+1) h0 h1 (fun y hy=>by
     rcases List.mem_append.1 hy with hy|hy
     ·exact ho y hy
     ·simp at hy;omega) h
    refine⟨?_,this.2⟩;rw[this.1,List.length_append,List.length_cons];simp;omega
   ·rw[if_neg hq]at h ⊢
    by_cases hs:n+1<s
    ·rw[if_pos hs]at h ⊢;have:=Qxq e s t (out++[n+1]) (n+1) (Qvm e s (n+1)+x) 1 (by omega) hs (fun y hy=>by
      rcases List.mem_append.1 hy with hy|hy
      ·exact ho y hy
      ·simp at hy;omega) h
     refine⟨?_,this.2⟩;rw[this.1,List.length_append,List.length_cons];simp;omega
    ·rw[if_neg hs]at h;cases h
abbrev Plc:=S76
def Qxr(e s:Int):Option Int→Int→List Int→List Int→List Plc
 | prev,at_,x :: into,z :: sizes =>
  (⟨x,(if prev=some x then at_ else Qvm e s x)%4294967296⟩:Plc) :: Qxr e s (some x) ((if prev=some x then at_ else Qvm e s x)+z) into sizes
 | _,_,_,_=>[]
def Qxs(into:List Int)(i:Nat):Option Int:=if i=0 then none else some (rd into ((i:Int)-1))
theorem Qxt{e s:Int}(h:Good e s)(into sizes:List Int)(hl:into.length≤1000000)(hz:sizes.length=into.length)(hi:∀x∈into,0≤x∧x<s)(hx:∀x∈sizes,0≤x∧x≤8388608):∀(d i k:Nat) (out:List Plc) (at_:Int),i+d=into.length→out.length=i→0≤at_→at_≤1000+(i:Int)*8388608→d+1≤k →
  Qcp.l0 k into sizes out at_ into (into.length:Int) (i:Int) e s=some (out++Qxr e s (Qxs into i) at_ (into.drop i) (sizes.drop i),0):=by
 intro d
 induction d with
 | zero =>
  intro i k out at_ hd ho h0 h1 hk;obtain⟨k,rfl⟩:∃m,k=m+1:=⟨k-1,by omega⟩;unfold Qcp.l0;rw[if_neg (by omega),List.drop_of_length_le (by omega)];simp[Qxr]
 | succ d ihd =>
  intro i k out at_ hd ho h0 h1 hk;obtain⟨k,rfl⟩:∃m,k=m+1:=⟨k-1,by omega⟩;have hil:i<into.length:=by omega
  have hxi:0≤rd into (i:Int)∧rd into (i:Int)<s:=by rw[rd_get hil];exact hi _ (List.getElem_mem hil)
  have hzi:0≤rd sizes (i:Int)∧rd sizes (i:Int)≤8388608:=by rw[rd_get (by omega)];exact hx _ (List.getElem_mem (by omega))
  have hH:=Qvo e s (rd into (i:Int));have hprev:Qxs into (i+1)=some (rd into (i:Int)):=by
   unfold Qxs;rw[if_neg (by omega),show(((i+1:Nat):Int)-1)=(i:Int)by omega]
  rw[Qwn hil,Qwn (l:=sizes) (by omega)];unfold Qcp.l0;rw[if_pos (by omega),if_pos (by omega),if_pos (by omega),Quy i (by omega)]
  by_cases hz0:i=0
  ·have hz1:((i:Nat):Int)=0:=by omega
   rw[if_pos hz1,Qwi h _ hxi.1 hxi.2,Option.bind_some,if_pos (by omega),if_pos (by omega),show wrap64 (Qvm e s (rd into (i:Int))+rd sizes (i:Int))=Qvm e s (rd into (i:Int))+rd sizes (i:Int)by unfold wrap64;omega];have ih:=ihd (i+1) k (out++[⟨rd into (i:Int),Qvm e s (rd into (i:Int))%4294967296⟩]) (Qvm e s (rd into (i:Int))+rd sizes (i:Int)) (by omega) (by rw[List.length_append,ho];rfl) (by omega) (by omega) (by omega);rw[ih,hprev];have hp0:Qxs into i=none:=by unfold Qxs;rw[if_pos hz0]
   rw[hp0];simp[Qxr]
  ·have hp0:Qxs into i=some (rd into ((i:Int)-1)):=by unfold Qxs;rw[if_neg hz0]
   rw[if_neg (by omega),Quz i (by omega) (by omega),if_pos (by omega),if_pos (by omega),show((i-1:Nat):Int)=(i:Int)-1 by omega]
   by_cases he:rd into (i:Int)=rd into ((i:Int)-1)
   ·rw[if_pos he,if_pos (by omega),if_pos (by omega),show wrap64 (at_+rd sizes (i:Int))=at_+rd sizes (i:Int)by unfold wrap64;omega];have ih:=ihd (i+1) k (out++[⟨rd into (i:Int),at_%4294967296⟩]) (at_+rd sizes (i:Int)) (by omega) (by rw[List.length_append,ho];rfl) (by omega) (by omega) (by omega);rw[ih,hprev,hp0,← he];simp[Qxr]
   ·rw[if_neg he,Qwi h _ hxi.1 hxi.2,Option.bind_some,if_pos (by omega),if_pos (by omega),show wrap64 (Qvm e s (rd into (i:Int))+rd sizes (i:Int))=Qvm e s (rd into (i:Int))+rd sizes (i:Int)by unfold wrap64;omega];have ih:=ihd (i+1) k (out++[⟨rd into (i:Int),Qvm e s (rd into (i:Int))%4294967296⟩]) (Qvm e s (rd into (i:Int))+rd sizes (i:Int)) (by omega) (by rw[List.length_append,ho];rfl) (by omega) (by omega) (by omega);rw[ih,hprev,hp0];have hne:¬(some (rd into ((i:Int)-1))=some (rd into (i:Int))):=fun e'=>he (Option.some.inj e').symm
    simp[Qxr,hne]
theorem Qxu{e s:Int}{l:List Rec}(h:(Qxl e s l).2.2=0)(hl:l.length≤1000000) :
  Good e s∧risL l=0∧(Qxi e s l).2=0∧Qxl e s l=((Qxi e s l).1,l.map fsz,0)∧(Qxi e s l).1.length=l.length∧∀x∈(Qxi e s l).1,0≤x∧x<s:=by
 unfold Qxl at h ⊢
 by_cases hg:12≤e∧e≤24∧1≤s∧s≤65536
 ·rw[if_pos hg]at h ⊢
  by_cases hr:risL l=0
  ·rw[if_pos hr]at h ⊢;have h2:(Qxi e s l).2=0:=h;have:=Qxq e s (l.map fsz) [] 0 (Qvm e s 0) 0 (by omega) (by omega) (by simp) h2;refine⟨hg,hr,h2,by rw[h2],?_,this.2⟩;have h3:(Qxi e s l).1.length=_:=this.1;rw[h3,List.length_map];simp
  ·rw[if_neg hr]at h;exact absurd h hr
 ·rw[if_neg hg]at h;cases h
theorem Qxv(e s:Int)(l:List Rec)(k:Nat)(hl:l.length≤1000000)(hw:Wf l)(hk:2*l.length+10≤k) :
  Qcp.f k e s l=some (if(Qxl e s l).2.2=0 then Qxr e s none 0 (Qxi e s l).1 (l.map fsz)else [],(Qxl e s l).2.2):=by
 unfold Qcp.f;rw[Qxn e s l k hl hw hk,Option.bind_some]
 by_cases h:(Qxl e s l).2.2=0
 ·obtain⟨hg,hr,h2,h3,h4,h5⟩:=Qxu h hl;rw[if_pos h,if_pos h,h,h3];have:=Qxt hg (Qxi e s l).1 (l.map fsz) (by omega) (by rw[List.length_map,h4]) h5 (fun x hx=>by
   obtain⟨r,hr',rfl⟩:=List.mem_map.1 hx;have:=Qxg r (Qwt (Qxm hr) r hr');omega) (Qxi e s l).1.length 0 k [] 0 (by omega) rfl (by omega) (by omega) (by omega)
  exact this
 ·rw[if_neg h,if_neg h]
def Qxw(into:List Int):Int:=if into.length=0 then 0 else(rd into ((into.length:Int)-1)+1)%4294967296
theorem segs_is(e s:Int)(l:List Rec)(k:Nat)(hl:l.length≤1000000)(hw:Wf l)(hk:2*l.length+10≤k) :
  Qcq.f k e s l=some (if(Qxl e s l).2.2=0 then Qxw (Qxi e s l).1 else 0,(Qxl e s l).2.2):=by
 unfold Qcq.f;rw[Qxn e s l k hl hw hk,Option.bind_some]
 by_cases h:(Qxl e s l).2.2=0
 ·obtain⟨hg,hr,h2,h3,h4,h5⟩:=Qxu h hl;rw[if_pos h,if_pos h,h,h3];dsimp only;unfold Qxw
  by_cases h0:(Qxi e s l).1.length=0
  ·rw[if_pos (by omega),if_pos h0]
  ·have hwl:wrap64 (((Qxi e s l).1.length:Int)-1)=((Qxi e s l).1.length:Int)-1:=by unfold wrap64;omega
   rw[if_neg (by omega),if_neg h0,hwl,if_pos (by omega),if_pos (by omega)]
 ·rw[if_neg h,if_neg h]
def few(l:List Rec)(m b:Int):Bool:=l.all (fun r=>decide ((r.f2.size:Int)≤b) && decide ((r.f3.size:Int)≤b)) && decide ((l.length:Int)≤m)
theorem Qxx(l:List Rec)(m b:Int)(hl:l.length≤4611686018427387903):∀(d i k:Nat),i+d=l.length→d+1≤k→Qaw.l0 k l m b l (l.length:Int) (i:Int)=some ((l.drop i).all (fun r=>decide ((r.f2.size:Int)≤b) && decide ((r.f3.size:Int)≤b)) && decide ((l.length:Int)≤m))
 | 0,i,k,h,hk=>by
  obtain⟨k,rfl⟩:∃m,k=m+1:=⟨k-1,by omega⟩;unfold Qaw.l0;rw[if_neg (by omega),List.drop_of_length_le (by omega)];simp
 | d+1,i,k,h,hk=>by
  obtain⟨k,rfl⟩:∃m,k=m+1:=⟨k-1,by omega⟩;have hi:i<l.length:=by omega
  unfold Qaw.l0;rw[if_pos (by omega),if_pos (by omega),if_pos (by omega),rdR l i hi,List.drop_eq_getElem_cons hi,Quy i (by omega),Qxx l m b hl d (i+1) k (by omega) (by omega)];rw[List.all_cons];generalize (l.drop (i+1)).all (fun r=>decide ((r.f2.size:Int)≤b) && decide ((r.f3.size:Int)≤b))=q;generalize l[i]=r
  by_cases h1:(r.f2.size:Int) > b
  ·rw[if_pos h1];simp[show ¬((r.f2.size:Int)≤b)by omega]
  ·rw[if_neg h1]
   by_cases h2:(r.f3.size:Int) > b
   ·rw[if_pos h2];simp[show ¬((r.f3.size:Int)≤b)by omega]
   ·rw[if_neg h2];simp[show((r.f2.size:Int)≤b)by omega,show((r.f3.size:Int)≤b)by omega]
theorem Qxy(l:List Rec)(m b:Int)(k:Nat)(hl:l.length≤4611686018427387903)(hk:l.length+1≤k):Qaw.f k l m b=some (few l m b):=Qxx l m b hl l.length 0 k (by omega) (by omega)
theorem Qxz{l:List Rec}{m b:Int}(h:few l m b=true):(l.length:Int)≤m∧∀r∈l,(r.f2.size:Int)≤b∧(r.f3.size:Int)≤b:=by
 unfold few at h;simp only[Bool.and_eq_true,List.all_eq_true,decide_eq_true_eq]at h;exact⟨h.2,fun r hr=>h.1 r hr⟩
theorem Bytes.app{a b:List Int}(h1:Bytes a)(h2:Bytes b):Bytes (a++b):=fun x hx=>(List.mem_append.1 hx).elim (h1 x) (h2 x)
theorem Bytes.left{a b:List Int}(h:Bytes (a++b)):Bytes a:=fun x hx=>h x (List.mem_append_left _ hx)
theorem Bytes.right{a b:List Int}(h:Bytes (a++b)):Bytes b:=fun x hx=>h x (List.mem_append_right _ hx)
theorem Bytes.cons{a:Int}{b:List Int}(h1:0≤a∧a<256)(h2:Bytes b):Bytes (a :: b):=fun x hx=>by
 rcases List.mem_cons.1 hx with rfl|hx
 ·exact h1
 ·exact h2 x hx
theorem Bytes.tail{a:Int}{b:List Int}(h:Bytes (a :: b)):Bytes b:=fun x hx=>h x (List.mem_cons_of_mem _ hx)
theorem Free.app{a b:List Int}(h1:Free a)(h2:Free b):Free (a++b):=fun x hx=>(List.mem_append.1 hx).elim (h1 x) (h2 x)
theorem Free.cons{a:Int}{b:List Int}(h1:a≠0)(h2:Free b):Free (a :: b):=fun x hx=>by
 rcases List.mem_cons.1 hx with rfl|hx
 ·exact h1
 ·exact h2 x hx
theorem Qya:∀l:List Int,Free l∨∃a b,l=a++0 :: b∧Free a
 | []=>.inl (fun x hx=>by cases hx)
 | c :: l=>by
  by_cases hc:c=0
  ·exact .inr ⟨[],l,by rw[hc];rfl,fun x hx=>by cases hx⟩
  ·rcases Qya l with h |⟨a,b,rfl,h⟩
   ·exact .inl (h.cons hc)
   ·exact .inr ⟨c :: a,b,rfl,h.cons hc⟩
theorem Qyb{b:List Int}(hb:Bytes b) :
  (∃a r,b=a++0 :: r∧Free a∧a.length<254∧Qmg b=((a.length:Int)+1) :: (a++Qmg r)) ∨
  (∃a r,b=a++r∧Free a∧a.length=254∧r≠[]∧Qmg b=255 :: (a++Qmg r)) ∨
  (Free b∧b.length≤254∧Qmg b=((b.length:Int)+1) :: b):=by
 rcases Qya b with hf |⟨a,r,rfl,hf⟩
 ·by_cases hl:b.length≤254
  ·refine .inr (.inr ⟨hf,hl,?_⟩);rw[Quu hb hf hl]
   congr 1
   omega
  ·refine .inr (.inl ⟨b.take 254,b.drop 254,(List.take_append_drop 254 b).symm,fun x hx=>hf x (List.mem_of_mem_take hx),by rw[List.length_take];omega,fun h=>by have:=congrArg List.length h;rw[List.length_drop]at this;simp at this;omega,?_⟩);have:=Quv (now:=b.take 254) (rest:=b.drop 254) (hb.take 254) (fun x hx=>hf x (List.mem_of_mem_take hx)) (by rw[List.length_take];omega) (fun h=>by have:=congrArg List.length h;rw[List.length_drop]at this;simp at this;omega);rw[List.take_append_drop]at this;exact this
 ·by_cases hl:a.length<254
  ·refine .inl ⟨a,r,rfl,hf,hl,?_⟩;rw[Qut hb.left hf hl]
   congr 1
   omega
  ·have h1:a++0 :: r=a.take 254++(a.drop 254++0 :: r):=by rw[← List.append_assoc,List.take_append_drop]
   refine .inr (.inl ⟨a.take 254,a.drop 254++0 :: r,h1,fun x hx=>hf x (List.mem_of_mem_take hx),by rw[List.length_take];omega,by simp,?_⟩);rw[h1];exact Quv (hb.left.take 254) (fun x hx=>hf x (List.mem_of_mem_take hx)) (by rw[List.length_take];omega) (by simp)
theorem Qyc:∀(n:Nat) (b:List Int),b.length≤n→Bytes b→Free (Qmg b)∧Bytes (Qmg b)∧Qmg b≠[]
 | n,b,hn,hb=>by
  rcases Qyb hb with⟨a,r,rfl,hf,hl,e⟩ |⟨a,r,rfl,hf,hl,hr,e⟩ |⟨hf,hl,e⟩
  ·rw[List.length_append,List.length_cons]at hn
   match n,hn with
   | n+1,hn =>
    have ih:=Qyc n r (by omega) hb.right.tail;rw[e];exact⟨(hf.app ih.1).cons (by omega),(hb.left.app ih.2.1).cons (by omega),by simp⟩
  ·rw[List.length_append]at hn
   match n,hn with
   | 0,hn=>omega
   | n+1,hn =>
    have ih:=Qyc n r (by omega) hb.right;rw[e];exact⟨(hf.app ih.1).cons (by omega),(hb.left.app ih.2.1).cons (by omega),by simp⟩
  ·rw[e];exact⟨hf.cons (by omega),hb.cons (by omega),by simp⟩
def Qyd:Nat→List Int→List Int
 | 0,_=>[]
 | _,[]=>[]
 | k+1,c :: t=>t.take (c.toNat-1)++(if c<255∧t.drop (c.toNat-1)≠[]then 0 :: Qyd k (t.drop (c.toNat-1))else Qyd k (t.drop (c.toNat-1)))
theorem Qye(k:Nat):Qyd k []=[]:=by cases k<;>rfl
theorem Qyf:∀(n:Nat) (b:List Int) (k:Nat),b.length≤n→Bytes b→b.length+1≤k→Qyd k (Qmg b)=b
 | n,b,k,hn,hb,hk=>by
  obtain⟨k,rfl⟩:∃m,k=m+1:=⟨k-1,by omega⟩
  rcases Qyb hb with⟨a,r,rfl,hf,hl,e⟩ |⟨a,r,rfl,hf,hl,hr,e⟩ |⟨hf,hl,e⟩
  ·rw[List.length_append,List.length_cons]at hn hk
   match n,hn with
   | n+1,hn =>
    have ih:=Qyf n r k (by omega) hb.right.tail (by omega);have hs:=Qyc _ r (Nat.le_refl _) hb.right.tail;have hc:((a.length:Int)+1).toNat-1=a.length:=by omega
    rw[e,Qyd,hc,List.take_left' rfl,List.drop_left' rfl,if_pos ⟨by omega,hs.2.2⟩,ih]
  ·rw[List.length_append]at hn hk
   match n,hn with
   | 0,hn=>omega
   | n+1,hn =>
    have ih:=Qyf n r k (by omega) hb.right (by omega);have hc:(255:Int).toNat-1=a.length:=by omega
    rw[e,Qyd,hc,List.take_left' rfl,List.drop_left' rfl,if_neg (fun h=>by omega),ih]
  ·have hc:((b.length:Int)+1).toNat-1=b.length:=by omega
   rw[e,Qyd,hc,List.take_of_length_le (Nat.le_refl _),List.drop_of_length_le (Nat.le_refl _),if_neg (fun h=>h.2 rfl),Qye,List.append_nil]
theorem Qyg{a b:List Int}(ha:Bytes a)(hb:Bytes b)(h:Qmg a=Qmg b):a=b:=by
 have h1:=Qyf _ a (a.length+b.length+1) (Nat.le_refl _) ha (by omega);have h2:=Qyf _ b (a.length+b.length+1) (Nat.le_refl _) hb (by omega);exact h1.symm.trans ((congrArg _ h).trans h2)
theorem Qyh:∀ {a b x y:List Int},Free a→Free b→a++0 :: x=b++0 :: y→a=b∧x=y
 | [],[],x,y,_,_,h=>⟨rfl,by simpa using h⟩
 | [],c :: b,x,y,_,hb,h=>by
  have h1:=List.cons.inj h;exact absurd h1.1.symm (hb c (List.mem_cons_self ..))
 | c :: a,[],x,y,ha,_,h=>by
  have h1:=List.cons.inj h;exact absurd h1.1 (ha c (List.mem_cons_self ..))
 | c :: a,d :: b,x,y,ha,hb,h=>by
  have h1:=List.cons.inj h;have ih:=Qyh (fun x hx=>ha x (List.mem_cons_of_mem _ hx)) (fun x hx=>hb x (List.mem_cons_of_mem _ hx)) h1.2;exact⟨by rw[h1.1,ih.1],ih.2⟩
theorem Qyi:∀(n:Nat) (x:Int),Bytes (leb x n)
 | 0,_=>fun y hy=>by cases hy
 | n+1,x=>(Qyi n (x/256)).cons (by omega)
theorem Qyj{a b x y:List Int}(ha:Bytes a)(hb:Bytes b)(h:Qnz a++x=Qnz b++y):a=b∧x=y:=by
 unfold Qnz at h;rw[List.append_assoc,List.append_assoc]at h;have hA:=ha.app (Qyi 8 (Qnt 0 a));have hB:=hb.app (Qyi 8 (Qnt 0 b));have h1:=Qyh (Qyc _ _ (Nat.le_refl _) hA).1 (Qyc _ _ (Nat.le_refl _) hB).1 h;have h2:=Qyg hA hB h1.1;exact⟨(List.append_inj' h2 (by rw[Qkp,Qkp])).1,h1.2⟩
theorem Qyk:∀(n:Nat) {x y:Int} {a b:List Int},0≤x→0≤y→vput n x++a=vput n y++b→x=y∧a=b
 | 0,x,y,a,b,_,_,h=>by
  have h1:=List.cons.inj h;exact⟨h1.1,by simpa using h1.2⟩
 | n+1,x,y,a,b,hx,hy,h=>by
  unfold vput at h
  by_cases h1:x<128
  ·by_cases h2:y<128
   ·rw[if_pos h1,if_pos h2]at h;have h3:=List.cons.inj h;exact⟨h3.1,by simpa using h3.2⟩
   ·rw[if_pos h1,if_neg h2]at h;have h3:=(List.cons.inj h).1;omega
  ·by_cases h2:y<128
   ·rw[if_neg h1,if_pos h2]at h;have h3:=(List.cons.inj h).1;omega
   ·rw[if_neg h1,if_neg h2]at h;have h3:=List.cons.inj h;have ih:=Qyk n (by omega) (by omega) h3.2;exact⟨by omega,ih.2⟩
theorem Qyl:∀(n:Nat) (x:Int),0≤x→x<256*128^n→Bytes (vput n x)
 | 0,x,h0,h1=>by
  unfold vput;intro y hy
  rcases List.mem_singleton.1 hy with rfl
  omega
 | n+1,x,h0,h1=>by
  unfold vput;split
  ·intro y hy
   rcases List.mem_singleton.1 hy with rfl
   omega
  ·refine(Qyl n (x/128) (by omega) ?_).cons (by omega);rw[Int.pow_succ]at h1;omega
theorem Qym(x:Int)(h0:0≤x)(h1:x<18446744073709551616):Bytes (vput 9 x):=Qyl 9 x h0 (by omega)
theorem Qyn(d:Bool)(s:Int)(key v:ByteArray)(h0:0≤s)(h1:s<18446744073709551616)(hk:key.size≤4611686018427387904)(hv:v.size≤4611686018427387904):Bytes (Qna d s key v):=by
 unfold Qna;refine Bytes.app (Bytes.app (Bytes.app ?_ (Qym s h0 h1)) ((Qym _ (by omega) (by omega)).app (Qro key))) ?_
 ·intro y hy
  rcases List.mem_singleton.1 hy with rfl
  split<;>omega
 ·split
  ·intro y hy;cases hy
  ·exact(Qym _ (by omega) (by omega)).app (Qro v)
theorem Qyo{key v:ByteArray}(h:chk true key v=0):v=ByteArray.empty:=by
 unfold chk at h;split at h
 ·cases h
 split at h
 ·cases h
 split at h
 ·cases h
 ·rename_i h3;have h4:v.toList=[]:=by simpa using h3
  have h5:=(Qux v).1 h4;refine Qun (List.eq_nil_of_length_eq_zero ?_);rw[Qdv];exact h5
theorem Qyp{d d':Bool}{s s':Int}{key key' v v':ByteArray}(h0:0≤s)(h0':0≤s')(hc:chk d key v=0)(hc':chk d' key' v'=0)(h:Qna d s key v=Qna d' s' key' v') :
  d=d'∧s=s'∧key=key'∧v=v':=by
 unfold Qna at h;have hz:∀(q:Bool) (a b c:List Int),[if q=true then(3:Int)else 2]++a++b++c=(if q=true then(3:Int)else 2) :: (a++(b++c)):=fun q a b c=>by simp
 rw[hz,hz]at h;have h1:=List.cons.inj h;have hd:d=d':=by
  cases d<;>cases d' <;> first|rfl |(have:=h1.1;simp at this)
 subst hd;have h2:=Qyk 9 h0 h0' h1.2;have h3:=h2.2;rw[List.append_assoc,List.append_assoc]at h3;have h4:=Qyk 9 (by omega) (by omega) h3;have hks:(bytesOf key).length=(bytesOf key').length:=by rw[Qdv,Qdv];omega
 have h5:=List.append_inj h4.2 hks;refine⟨rfl,h2.1,Qun h5.1,?_⟩
 cases d with
 | true=>rw[Qyo hc,Qyo hc']
 | false =>
  have h6:=h5.2;simp only[Bool.false_eq_true,if_false]at h6;exact Qun (Qyk 9 (by omega) (by omega) h6).2
def okR(r:Rec):Prop:=chkR r=0∧0≤r.f1∧r.f1<18446744073709551616
theorem Qyq{r:Rec}(h:okR r):Bytes (Qna r.f0 r.f1 r.f2 r.f3):=by
 have:=Qmz h.1;exact Qyn _ _ _ _ h.2.1 h.2.2 (by omega) (by omega)
theorem Qyr{r r':Rec}{x y:List Int}(h:okR r)(h':okR r')(e:Qxd r++x=Qxd r'++y):r=r'∧x=y:=by
 have h1:=Qyj (Qyq h) (Qyq h') e;have h2:=Qyp h.2.1 h'.2.1 h.1 h'.1 h1.1;refine⟨?_,h1.2⟩
 cases r;cases r'
 obtain⟨a,b,c,d⟩:=h2;simp only at a b c d;rw[a,b,c,d]
def NoRec(T:List Int):Prop:=∀r x,okR r→T≠Qxd r++x
theorem Qys(x:Ent):Bytes (ent x):=(Qyi 8 _).app (Qyi 4 _)
theorem Qyt{α:Type}(f:α→List Int)(hf:∀x,Bytes (f x)):∀l:List α,Bytes (l.flatMap f)
 | []=>fun y hy=>by cases hy
 | x :: t=>by rw[List.flatMap_cons];exact(hf x).app (Qyt f hf t)
theorem Qyu(u:Int)(l:List Ent)(p:List Int):NoRec (Qqn u l++p):=by
 intro r x hr e;unfold Qqn Qxd at e;have hb:Bytes ([4]++leb (l.length:Int) 4++leb u 4++l.flatMap ent++(Qpj l).flatMap (fun x=>leb x 8)):=by
  refine Bytes.app (Bytes.app (Bytes.app (Bytes.app ?_ (Qyi 4 _)) (Qyi 4 _)) (Qyt _ Qys l)) (Qyt _ (fun x=>Qyi 8 x) _);intro y hy
  rcases List.mem_singleton.1 hy with rfl
  omega
 have h1:=(Qyj hb (Qyq hr) e).1;unfold Qna at h1;simp only[List.cons_append,List.nil_append,List.append_assoc]at h1;have h2:=(List.cons.inj h1).1;split at h2<;>omega
theorem stuff_most:∀(n:Nat) (b:List Int),b.length≤n→(Qmg b).length≤b.length+1+(b.length-1)/254
 | n,b,hn=>by
  rcases Int.lt_or_le (ixOf (b.take 254) 0) 0 with h0|h0
  ·by_cases hl:254<b.length
   ·rw[Qmk h0 hl]
    match n,hn with
    | 0,hn=>omega
    | n+1,hn =>
     have ih:=stuff_most n (b.drop 254) qq_30;rw[List.length_drop]at ih;rw[List.length_cons,List.length_append,List.length_take];omega
   ·rw[Qml h0 hl,List.length_cons];omega
  ·obtain⟨p,hp⟩:=Int.eq_ofNat_of_zero_le h0;have h1:=(Qme (b.take 254) 0).2;rw[List.length_take,hp]at h1;rw[Qmj hp]
   match n,hn with
   | 0,hn=>omega
   | n+1,hn =>
    have ih:=stuff_most n (b.drop (p+1)) qq_30;rw[List.length_drop]at ih;rw[List.length_cons,List.length_append,List.length_take];omega
theorem sealL_most(b:List Int):(Qnz b).length≤b.length+8+1+(b.length+8-1)/254+1:=by
 have h:=stuff_most _ (b++leb (Qnt 0 b) 8) (Nat.le_refl _);rw[List.length_append,Qkp]at h;unfold Qnz;rw[List.length_append];simp;omega
theorem fence_len(l:List Ent):(Qpj l).length=(l.length+15)/16:=by simp[Qpj,chN]
theorem foot_len(u:Int)(l:List Ent):((Qqn u l).length:Int)≤Qvq (l.length:Int):=by
 have h:=sealL_most ([4]++leb l.length 4++leb u 4++l.flatMap ent++(Qpj l).flatMap (fun x=>leb x 8));have h2:=Qqs (l.length:Int) u l;rw[List.nil_append]at h2;rw[h2,fence_len]at h;unfold Qqn Qvq;obtain⟨c,hc⟩:∃c,c=(l.length+15)/16:=⟨_,rfl⟩;have hcI:((l.length:Int)+15)/16=(c:Int):=by omega
 rw[hcI];rw[← hc]at h;clear hc hcI h2;obtain⟨g,hg⟩:∃g,g=(9+12*l.length+8*c+8-1)/254:=⟨_,rfl⟩;have hgI:(9+12*(l.length:Int)+8*(c:Int)+8-1)/254=(g:Int):=by omega
 rw[hgI];rw[← hg]at h;clear hg hgI;omega
theorem le_trans_E(x y z:Ent)(h1:(!(ltOf cfE) y x)=true)(h2:(!(ltOf cfE) z y)=true):(!(ltOf cfE) z x)=true:=by
 rw[Qpu]at *;simp at *;omega
theorem le_total_E(x y:Ent):((!(ltOf cfE) y x) ||(!(ltOf cfE) x y))=true:=by
 rw[Qpu,Qpu];simp;omega
theorem sortE_pair(l:List Ent):(Qps l).Pairwise (fun x y=>(!(ltOf cfE) y x)=true):=List.pairwise_mergeSort le_trans_E le_total_E l
theorem rising_of:∀(l:List Ent),l.Pairwise (fun x y=>(!(ltOf cfE) y x)=true)→l.Nodup→Qqf l=true
 | [],_,_=>rfl
 | [_],_,_=>rfl
 | a :: b :: t,hp,hn=>by
  have hp2:=List.pairwise_cons.1 hp;have hn2:=List.pairwise_cons.1 hn;have ih:=rising_of (b :: t) hp2.2 hn2.2;have h1:=hp2.1 b (by simp);have h2:=hn2.1 b (by simp);have h3:ltOf cfE a b=true:=by
   cases h:ltOf cfE a b with
   | true=>rfl
   | false=>exact absurd (totE a b h (by simpa using h1)) h2
  unfold Qqf ltE;rw[ih]
  simpa [ltOf]using h3
theorem sort_rising{l:List Ent}(h:l.Nodup):Qqf (Qps l)=true:=rising_of _ (sortE_pair l) ((Qqc l).nodup_iff.2 h)
def okB(e s n:Int)(i:Nat)(B:Bd):Prop :=
 B.1=(e,s,n,(B.2.1.length:Int),(B.2.2.length:Int))∧B.2.2.length≤i∧(∀x∈B.2.2,wfE x∧x.f1<(B.2.1.length:Int))∧B.2.2.Pairwise (fun x y=>x.f1<y.f1)∧(B.2.1.length:Int)≤16777216
def putB(e s n:Int)(B:Bd)(r:Rec):Bd :=
 ((e,s,n,((B.2.1++Qxd r).length:Int),((B.2.2.length+1:Nat):Int)),B.2.1++Qxd r,B.2.2++[⟨Qnt 0 (bytesOf r.f2),(B.2.1.length:Int)%4294967296⟩])
def freshB(e s n:Int):Bd:=((e,s,n,Qvm e s n,0),Qoe e s n,[])
theorem new_good{e s:Int}(h:Good e s)(n:Int)(h0:0≤n)(h1:n<s):newB e s n=some (freshB e s n):=by
 unfold newB;rw[Qwi h n h0 h1,Option.bind_some,Qwh h n h0 h1,Option.bind_some];simp[freshB]
theorem Qfh(e s n:Int)(i:Nat):okB e s n i (freshB e s n):=by
 have:=Qvo e s n;refine⟨by simp[freshB,Qvm],by simp[freshB],by simp[freshB],by simp[freshB],?_⟩;unfold Qvm at this;simp only[freshB];omega
theorem large_no{e s:Int}(h:Good e s){x:Int}(hx1:x≤1152921504606846976)(hf:Qwb e (Qvm e s (s-1)) 0 x=true):Qcx.f e s x=some false:=by
 have hr:=Qvo e s (s-1);have hg:=h;obtain⟨g1,g2,g3,g4⟩:=hg;unfold Qcx.f;rw[show(s-1)%4294967296=s-1 by omega,Qwi h (s-1) (by omega) (by omega),Option.bind_some];dsimp only;rw[if_pos rfl,Qwc h _ _ _ _ (by omega) (by omega) (by omega) (by omega) hx1,hf];rfl
theorem add_good{e s n:Int}(h:Good e s){i:Nat}{B:Bd}{r:Rec}(hB:okB e s n i B)(hi:i≤1000000)(hc:chkR r=0)(hw:0≤r.f1∧r.f1<18446744073709551616)
  (hl:Qwb e (Qvm e s (s-1)) 0 (fsz r)=true) (hf:Qwb e (B.2.1.length:Int) (B.2.2.length:Int) (fsz r)=true) :
  addB B r=some (putB e s n B r)∧okB e s n (i+1) (putB e s n B r)∧((putB e s n B r).2.1.length:Int)+Qvq ((putB e s n B r).2.2.length:Int)≤szN e∧(putB e s n B r).2.2≠[]:=by
 obtain⟨b1,b2,b3,b4,b5⟩:=hB;have hx:=Qxg r hc;have hft:=Qwe hf;have hsz:=Qvu h.1 h.2.1;have hm:=Qwa ((B.2.2.length:Int)+1) (by omega) (by omega);have hlen:((B.2.1++Qxd r).length:Int)=(B.2.1.length:Int)+fsz r:=by rw[List.length_append];unfold fsz;omega
 have hh:=Qny 0 (bytesOf r.f2);have hmod:(B.2.1.length:Int)%4294967296=(B.2.1.length:Int):=by omega
 refine⟨?_,⟨?_,?_,?_,?_,?_⟩,?_,?_⟩
 ·unfold addB;rw[if_pos (show chk r.f0 r.f2 r.f3=0 from hc),Qxh r hc hw.1 hw.2,Option.bind_some,b1];dsimp only;rw[show((Qxd r).length:Int)=fsz r from rfl,large_no h (by omega) hl,Option.bind_some,Qwf h n _ _ _ (by omega) (by omega) (by omega) (by omega) (by omega) hf,Option.bind_some];dsimp only;rw[if_pos ⟨rfl,rfl,rfl,by have hfz:((Qxd r).length:Int)=fsz r:=rfl;omega,by omega⟩];unfold putB;rw[hlen];simp
 ·simp[putB]
 ·simp only[putB,List.length_append,List.length_cons,List.length_nil];omega
 ·intro x hxm;simp only[putB]at hxm ⊢;rw[hlen]
  rcases List.mem_append.1 hxm with hm' | hm'
  ·have:=b3 x hm';exact⟨this.1,by omega⟩
  ·simp only[List.mem_singleton]at hm';subst hm';rw[hmod];exact⟨⟨hh,(show(0:Int)≤(B.2.1.length:Int)by omega),(show(B.2.1.length:Int)<4294967296 by omega)⟩,by dsimp only;omega⟩
 ·simp only[putB];rw[List.pairwise_append];refine⟨b4,by simp,?_⟩;intro x hx y hy;simp only[List.mem_singleton]at hy;subst hy;rw[hmod];exact(b3 x hx).2
 ·simp only[putB];rw[hlen];omega
 ·simp only[putB];rw[hlen,List.length_append];simp only[List.length_cons,List.length_nil];have:(((B.2.2.length+(0+1):Nat)):Int)=(B.2.2.length:Int)+1:=by omega
  rw[this];omega
 ·simp[putB]
theorem any_sort(u:Int){l:List Ent}(h:∀x∈l,x.f1<u):(Qps l).any (fun x=>decide (u≤x.f1))=false:=by
 rw[List.any_eq_false];intro x hx;have:=h x ((Qqc l).mem_iff.1 hx);simp;omega
theorem pair_nodup{l:List Ent}(h:l.Pairwise (fun x y=>x.f1<y.f1)):l.Nodup:=h.imp (fun {a b} hab he=>by subst he;omega)
theorem seal_good{e s n:Int}(h:Good e s){i:Nat}{B:Bd}(hB:okB e s n i B)(hi:i≤1000000)(hne:B.2.2≠[])(hr:(B.2.1.length:Int)+Qvq (B.2.2.length:Int)≤szN e) :
  ∃o,Qqv B=some o∧o.length=(szN e).toNat∧B.2.1 <+: o:=by
 obtain⟨b1,b2,b3,b4,b5⟩:=hB;have hsz:=Qvu h.1 h.2.1;have hu:Qqu B=(B.2.1.length:Int):=by unfold Qqu;omega
 have hfl:=foot_len (Qqu B) (Qps B.2.2);rw[Qpt]at hfl;have hn0:B.2.2.length≠0:=fun he=>hne (List.eq_nil_of_length_eq_zero he)
 have hck:Qqk (Qqu B) (Qps B.2.2)=0:=by
  unfold Qqk;rw[Qpt,if_neg hn0,if_neg (by omega),sort_rising (pair_nodup b4),if_neg (by simp),any_sort _ (fun x hx=>by rw[hu];exact(b3 x hx).2),if_neg (by simp)]
 unfold Qqv;rw[b1];dsimp only;rw[Qvv h,Option.bind_some,if_pos ⟨hn0,by omega,fun x hx=>(b3 x hx).1,hck,by omega,by omega⟩];refine⟨_,rfl,?_,?_⟩
 ·rw[List.length_append,List.length_replicate,List.length_append];omega
 ·rw[List.append_assoc];exact List.prefix_append _ _
theorem open_good{e s n:Int}(h:Good e s){i:Nat}{B:Bd}(hB:okB e s n i B)(hr:(B.2.1.length:Int)≤szN e) :
  ∃o,Qqw B=some o∧o.length=(szN e).toNat∧B.2.1 <+: o:=by
 obtain⟨b1,b2,b3,b4,b5⟩:=hB;have hsz:=Qvu h.1 h.2.1;unfold Qqw;rw[b1];dsimp only;rw[Qvv h,Option.bind_some,if_pos ⟨by omega,by omega⟩];refine⟨_,rfl,?_,List.prefix_append _ _⟩;rw[List.length_append,List.length_replicate];omega
theorem planP_pre(e s:Int):∀(l out:List Int) (n u c:Int),(Qwl e s l out n u c).2=0→out <+: (Qwl e s l out n u c).1
 | [],out,n,u,c,h=>by unfold Qwl;exact List.prefix_rfl
 | x :: t,out,n,u,c,h=>by
  unfold Qwl at h ⊢
  by_cases hf:Qwb e (Qvm e s (s-1)) 0 x=false
  ·rw[if_pos hf]at h;cases h
  ·rw[if_neg hf]at h ⊢
   by_cases hq:Qwb e u c x=true
   ·rw[if_pos hq]at h ⊢;exact(List.prefix_append _ _).trans (planP_pre e s t _ _ _ _ h)
   ·rw[if_neg hq]at h ⊢
    by_cases hs:n+1<s
    ·rw[if_pos hs]at h ⊢;exact(List.prefix_append _ _).trans (planP_pre e s t _ _ _ _ h)
    ·rw[if_neg hs]at h;cases h
theorem pre_at{into:List Int}{i:Nat}{x:Int}(h:into.take i++[x] <+: into)(hi:i<into.length):rd into (i:Int)=x∧into.take (i+1)=into.take i++[x]:=by
 obtain⟨t,ht⟩:=h;have h1:=congrArg (fun l=>l[i]?) ht;have h2:(into.take i).length=i:=by rw[List.length_take];omega
 have h3:(into.take i++[x]++t)[i]? = some x:=by
  rw[List.append_assoc,List.getElem?_append_right (by omega),h2,Nat.sub_self];rfl
 rw[h3]at h1;refine⟨?_,?_⟩
 ·rw[rd_get hi];have h4:=List.getElem?_eq_getElem hi;rw[← h1]at h4;exact(Option.some.inj h4).symm
 ·rw[List.take_add_one,← h1];rfl
theorem room_lim{e s n:Int}(h:Good e s)(h1:n<s):n.toNat*(szN e).toNat+(szN e).toNat≤lim:=by
 have hsz:=Qvu h.1 h.2.1;obtain⟨g1,g2,g3,g4⟩:=h;have:(n.toNat+1)*(szN e).toNat≤65536*16777216:=Nat.mul_le_mul (by omega) (by omega);rw[Nat.add_mul,Nat.one_mul]at this;unfold lim;omega
theorem encode_bad(e s:Int)(l:List Rec)(k:Nat)(hl:l.length≤1000000)(hw:Wf l)(hk:2*l.length+10≤k)(h:(Qxl e s l).2.2≠0):Qco.f k e s l=some ([],(Qxl e s l).2.2):=by
 unfold Qco.f;rw[Qxn e s l k hl hw hk,Option.bind_some,if_neg h]
def fillB(e s n:Int):Bd→List Rec→Bd
 | B,[]=>B
 | B,r :: t=>fillB e s n (putB e s n B r) t
def tailB(B:Bd)(b:Bool):List Int:=B.2.1++(if b=true then Qqn (Qqu B) (Qps B.2.2)else [])
end Go.Proofs.YteaocbonofboeaaGreat.CodecP
end
