/- Merged texts. -/
import Derived.Test.YtepkfjmjidjedaaGreatMA13
import Derived.Test.YtepkfjmjidjedaaGreatMA09
import Derived.Test.YtepkfjmjidjedaaGreatMA10
import Derived.Test.YtepkfjmjidjedaaGreatMA02
import Derived.Test.YtepkfjmjidjedaaGreatMA12
set_option linter.unusedVariables false
set_option linter.unusedSimpArgs false
set_option maxHeartbeats 8000000
set_option maxRecDepth 100000
section
namespace Go.Proofs.YtepkfjmjidjedaaGreat.CodecP
open Go.RowKit Go.Proofs.YtepkfjmjidjedaaGreat.C Go.Proofs.YtepkfjmjidjedaaGreatW.PrintWords Go.Proofs.YtepkfjmjidjedaaGreatW.PrintLast Go.Proofs.YtepkfjmjidjedaaGreatW.PrintMore
theorem Qui:∀(n:Nat) (b:List Int),b.length≤n→b.length<254→(Qjq b).length=b.length+1
 | n,b,hn,h=>by
  rcases Int.lt_or_le (ixOf (b.take 254) 0) 0 with h0|h0
  ·rw[Qjv h0 (by omega)];simp
  ·obtain⟨p,hp⟩:=Int.eq_ofNat_of_zero_le h0;have h1:=(Qjo (b.take 254) 0).2;rw[List.length_take,hp]at h1;rw[Qjt hp]
   match n,hn with
   | 0,hn=>omega
   | n+1,hn =>
    have ih:=Qui n (b.drop (p+1)) qq_31 qq_31;rw[List.length_cons,List.length_append,ih,List.length_take,List.length_drop];omega
theorem Quj:∀(n:Nat) (x y:Int),0≤x→x≤y→(vput n x).length≤(vput n y).length
 | 0,_,_,_,_=>by simp[vput]
 | n+1,x,y,h0,h=>by
  have ih:=Quj n (x/128) (y/128) (by omega) (by omega);unfold vput
  by_cases hy:y<128
  ·rw[if_pos hy,if_pos (by omega)];simp
  ·rw[if_neg hy]
   by_cases hx:x<128
   ·rw[if_pos hx];simp
   ·rw[if_neg hx];simp;omega
def Quk(e s n:Int):Int:=((Qlf e s n).length:Int)
theorem Qul(e s n:Int):Quk e s n=3+(vput 9 s).length+(vput 9 n).length+10:=by
 unfold Quk Qlf Qla;have h1:=Qjy 9 s;have h2:=Qjy 9 n;have hl:([1,2,e]++vput 9 s++vput 9 n++leb (Qkt 0 ([1,2,e]++vput 9 s++vput 9 n)) 8).length=3+(vput 9 s).length+(vput 9 n).length+8:=by
  rw[List.length_append,List.length_append,List.length_append,Qiq];rfl
 rw[List.length_append,Qui _ _ (Nat.le_refl _) (by rw[hl];omega),hl];simp;omega
theorem Qum(e s n:Int):0≤Quk e s n∧Quk e s n≤100:=by
 rw[Qul];have h1:=Qjy 9 s;have h2:=Qjy 9 n;omega
theorem Qun(e s:Int){n m:Int}(h0:0≤n)(h:n≤m):Quk e s n≤Quk e s m:=by
 rw[Qul,Qul];have:=Quj 9 n m h0 h;omega
def Quo(n:Int):Int:=9+12*n+8*((n+15)/16)+8+1+(9+12*n+8*((n+15)/16)+8-1)/254+1
def szN(e:Int):Int:=2^e.toNat
def Good(e s:Int):Prop:=12≤e∧e≤24∧1≤s∧s≤65536
theorem Qup{e s:Int}(h:Good e s):Qao.f e s=some 0:=by
 obtain⟨h1,h2,h3,h4⟩:=h;unfold Qao.f;rw[if_neg (by omega),if_neg (by omega),if_neg (by omega),if_neg (by omega)]
theorem Quq{e s:Int}(h:¬Good e s):Qao.f e s=some 1:=by
 unfold Qao.f
 by_cases h1:e<12
 ·rw[if_pos h1]
 by_cases h2:e > 24
 ·rw[if_neg h1,if_pos h2]
 by_cases h3:s<1
 ·rw[if_neg h1,if_neg h2,if_pos h3]
 by_cases h4:s > 65536
 ·rw[if_neg h1,if_neg h2,if_neg h3,if_pos h4]
 ·exact absurd ⟨by omega,by omega,by omega,by omega⟩ h
theorem Qur{e:Int}(h1:12≤e)(h2:e≤24):4096≤szN e∧szN e≤16777216:=by
 unfold szN;obtain⟨n,rfl⟩:=Int.eq_ofNat_of_zero_le (show 0≤e by omega);rw[Int.toNat_natCast];have h3:(2:Nat)^12≤2^n:=Nat.pow_le_pow_right (by omega) (by omega);have h4:(2:Nat)^n≤2^24:=Nat.pow_le_pow_right (by omega) (by omega);have h5:((2^n:Nat):Int)=(2:Int)^n:=by rw[Int.natCast_pow];rfl
 rw[← h5];omega
theorem Qus{e s:Int}(h:Good e s):Qaq.f e s=some (szN e):=by
 have hr:=Qur h.1 h.2.1;unfold Qaq.f;rw[Qup h,Option.bind_some,if_pos rfl,if_pos (by have:=h.1;omega)]
 congr 1
 unfold shl;have hm:min e.toNat IntKind.i64.bits=e.toNat:=by simp[IntKind.bits];have:=h.2.1;omega
 rw[hm,Int.one_mul];exact IntWalk.i64_in _ (by unfold szN at hr;omega)
theorem Qut(c:Int)(h0:0≤c)(h1:c≤16777216):Qbe.f c=some (Quo c):=by
 have hm:mx 0 c=c:=by unfold mx;split<;>omega
 have hf:Qbb.f c=some ((c+15)/16):=by
  unfold Qbb.f;rw[hm];have e1:wrap64 ((wrap64 (c+16))-1)=c+15:=by unfold wrap64;omega
  rw[e1,Int.tdiv_eq_ediv_of_nonneg (by omega)]
  congr 1
  unfold wrap64;omega
 have ha:wrap64 ((wrap64 (9+(wrap64 (12*c))))+(wrap64 (8*((c+15)/16))))=9+12*c+8*((c+15)/16):=by unfold wrap64;omega
 unfold Qbe.f;rw[hm,hf,Option.bind_some,ha];obtain⟨m,hmm⟩:∃m,m=9+12*c+8*((c+15)/16):=⟨_,rfl⟩;have hm0:0≤m:=by omega
 have hm1:m≤1000000000:=by omega
 unfold Quo;rw[← hmm];clear hmm ha hf hm;have hx:mx 0 m=m:=by unfold mx;split<;>omega
 unfold Qbk.f Qal.f;rw[hx];have e1:wrap64 (m+8)=m+8:=by unfold wrap64;omega
 rw[e1,if_neg (by omega)];have e2:wrap64 (m+8-1)=m+8-1:=by unfold wrap64;omega
 rw[e2,Int.tdiv_eq_ediv_of_nonneg (by omega),Option.bind_some,Option.bind_some]
 congr 1
 unfold wrap64;omega
theorem Quu(c:Int)(h0:0≤c)(h1:c≤16777216):12*c≤Quo c∧Quo c≤1000000000:=by unfold Quo;omega
def Quv(e u c x:Int):Bool:=decide (1≤x∧u+x+Quo (c+1)≤szN e)
theorem Quw{e s:Int}(h:Good e s)(n u c x:Int)(hu0:0≤u)(hu1:u≤16777216)(hc0:0≤c)(hc1:c≤8388608)(hx1:x≤1152921504606846976):Qbs.f e s n u c x=some (Quv e u c x):=by
 have hz:=Qur h.1 h.2.1;have hm:=Quu (c+1) (by omega) (by omega);unfold Qbs.f Quv
 by_cases hx:x≥1
 ·rw[if_pos hx];unfold Qbt.f;rw[Qus h,Option.bind_some,show wrap64 (c+1)=c+1 by unfold wrap64;omega,Qut (c+1) (by omega) (by omega),Option.bind_some,Option.bind_some]
  congr 1
  have e1:wrap64 (wrap64 (szN e-u)-Quo (c+1))=szN e-u-Quo (c+1):=by unfold wrap64;omega
  rw[e1];unfold mx;rw[decide_eq_decide];split<;>omega
 ·rw[if_neg hx]
  congr 1
  symm
  rw[decide_eq_false_iff_not];omega
theorem Qux{e u c x:Int}(h:Quv e u c x=true):1≤x∧u+x+Quo (c+1)≤szN e:=by simpa [Quv]using h
theorem Quy{e s:Int}(h:Good e s)(n u c x:Int)(hu0:0≤u)(hu1:u≤16777216)(hc0:0≤c)(hc1:c≤8388608)(hx1:x≤1152921504606846976)(hf:Quv e u c x=true):Qbu.f e s n u c x=some (e,s,n,u+x,c+1,0):=by
 have hz:=Qur h.1 h.2.1;have hm:=Quu (c+1) (by omega) (by omega);obtain⟨f1,f2⟩:=Qux hf;unfold Qbu.f;rw[Quw h n u c x hu0 hu1 hc0 hc1 hx1,Option.bind_some,hf,if_pos rfl,show wrap64 (u+x)=u+x by unfold wrap64;omega,show wrap64 (c+1)=c+1 by unfold wrap64;omega]
theorem Quz{e s:Int}(h:Good e s)(n:Int)(h0:0≤n)(h1:n<s):Qbh.f e s n=some (Qlf e s n,0):=by
 obtain⟨a,b,c,d⟩:=h;unfold Qbh.f Qbl.f;rw[Qup ⟨a,b,c,d⟩,Option.bind_some,if_pos rfl,if_neg (by omega),Option.bind_some,if_pos rfl,if_pos ⟨by omega,by omega,by omega,by omega,by omega,by omega⟩]
theorem Qva{e s:Int}(h:Good e s)(n:Int)(h0:0≤n)(h1:n<s):Qbq.f e s n=some (e,s,n,Quk e s n,0,0):=by
 unfold Qbq.f;rw[Quz h n h0 h1,Option.bind_some,if_pos rfl];rfl
theorem Qvb{e s:Int}(h:Good e s)(n:Int)(h1:s≤n):Qbq.f e s n=some (0,0,0,0,0,1):=by
 unfold Qbq.f Qbh.f Qbl.f;rw[Qup h,Option.bind_some,if_pos rfl,if_pos (by omega),Option.bind_some,if_neg (by decide),Option.bind_some,if_neg (by decide)]
def Qvc(e s:Int):List Int→List Int→Int→Int→Int→List Int × Int
 | [],out,_,_,_=>(out,0)
 | x :: t,out,n,u,c =>
  if Quv e (Quk e s (s-1)) 0 x=false then([],6)
  else if Quv e u c x=true then Qvc e s t (out++[n]) n (u+x) (c+1)
  else if n+1<s then Qvc e s t (out++[n+1]) (n+1) (Quk e s (n+1)+x) 1
  else([],7)
theorem Qvd{e s:Int}(h:Good e s){n x:Int}(h0:0≤n)(h1:n≤s-1)(hf:Quv e (Quk e s (s-1)) 0 x=true):Quv e (Quk e s n) 0 x=true:=by
 obtain⟨f1,f2⟩:=Qux hf;have:=Qun e s h0 h1;simp only[Quv,decide_eq_true_eq];omega
theorem rd_drop{l:List Int}{i:Nat}(h:i<l.length):l.drop i=rd l (i:Int) :: l.drop (i+1):=by rw[List.drop_eq_getElem_cons h,rd_get h]
theorem Qve{e s:Int}(h:Good e s){u c x:Int}(hc0:0≤c)(hc1:c≤8388608)(hu0:0≤u)(hf:Quv e u c x=true):0≤u+x∧u+x≤16777216∧0≤c+1∧c+1≤8388608:=by
 have hz:=Qur h.1 h.2.1;have hm:=Quu (c+1) (by omega) (by omega);obtain⟨f1,f2⟩:=Qux hf;omega
theorem Qvf{e s:Int}(h:Good e s)(l:List Int)(hl:l.length≤1000000)(hx:∀x∈l,x≤1152921504606846976):∀(d i k:Nat) (out:List Int) (n u c:Int),i+d=l.length→out.length=i→0≤n→n<s→0≤u→u≤16777216→0≤c→c≤8388608→d+1≤k →
  Qbr.l0 k out l (l.length:Int) (i:Int) e s e s n u c e s (s-1) (Quk e s (s-1)) 0=some (Qvc e s (l.drop i) out n u c)
 | 0,i,k,out,n,u,c,hi,ho,hn0,hn1,hu0,hu1,hc0,hc1,hk=>by
  obtain⟨k,rfl⟩:∃m,k=m+1:=⟨k-1,by omega⟩;rw[List.drop_of_length_le (by omega)];unfold Qbr.l0;rw[if_neg (by omega)];rfl
 | d + 1,i,k,out,n,u,c,hi,ho,hn0,hn1,hu0,hu1,hc0,hc1,hk=>by
  obtain⟨k,rfl⟩:∃m,k=m+1:=⟨k-1,by omega⟩;have hg:=h;obtain⟨a1,a2,a3,a4⟩:=h;have hil:i<l.length:=by omega
  have hxi:rd l (i:Int)≤1152921504606846976:=by rw[rd_get hil];exact hx _ (List.getElem_mem hil)
  have hH:=Qum e s (s-1);rw[rd_drop hil];unfold Qbr.l0;rw[if_pos (by omega),if_pos (by omega),if_pos (by omega),Qtg i (by omega)];generalize hxx:rd l (i:Int)=x at *;rw[Quw hg (s-1) (Quk e s (s-1)) 0 x hH.1 (by omega) (by omega) (by omega) hxi,Option.bind_some];unfold Qvc
  by_cases hf:Quv e (Quk e s (s-1)) 0 x=false
  ·rw[hf,if_neg (by decide),if_pos rfl]
  ·have hft:Quv e (Quk e s (s-1)) 0 x=true:=by simpa using hf
   rw[if_neg hf,if_pos hft,Quw hg n u c x hu0 hu1 hc0 hc1 hxi,Option.bind_some]
   by_cases hq:Quv e u c x=true
   ·have haf:=Qve hg hc0 hc1 hu0 hq;rw[if_pos hq,if_pos hq,Quy hg n u c x hu0 hu1 hc0 hc1 hxi hq,Option.bind_some,if_pos (by omega)];exact Qvf hg l hl hx d (i+1) k (out++[n]) n (u+x) (c+1) (by omega) (by rw[List.length_append,ho];rfl) hn0 hn1 haf.1 haf.2.1 haf.2.2.1 haf.2.2.2 (by omega)
   ·rw[if_neg hq,if_neg hq,show(n+1)%4294967296=n+1 by omega]
    by_cases hs:n+1<s
    ·have hfn:=Qvd hg (show 0≤n+1 by omega) (by omega) hft;have hHn:=Qum e s (n+1);have haf:=Qve hg (Int.le_refl 0) (by omega) hHn.1 hfn;rw[if_pos hs,Qva hg (n+1) (by omega) hs,Option.bind_some,if_pos rfl,Quy hg (n+1) (Quk e s (n+1)) 0 x hHn.1 (by omega) (by omega) (by omega) hxi hfn,Option.bind_some,if_pos (by omega)];exact Qvf hg l hl hx d (i+1) k (out++[n+1]) (n+1) (Quk e s (n+1)+x) 1 (by omega) (by rw[List.length_append,ho];rfl) (by omega) hs haf.1 haf.2.1 (by omega) (by omega) (by omega)
    ·rw[if_neg hs,Qvb hg (n+1) (by omega),Option.bind_some,if_neg (by decide)]
theorem Qvg{e s:Int}(h:Good e s)(l:List Int)(k:Nat)(hl:l.length≤1000000)(hx:∀x∈l,x≤1152921504606846976)(hk:l.length+1≤k):Qbr.f k e s l=some (Qvc e s l [] 0 (Quk e s 0) 0):=by
 have hg:=h;obtain⟨a1,a2,a3,a4⟩:=h;have hH:=Qum e s 0;unfold Qbr.f;rw[Qva hg 0 (by omega) (by omega),Option.bind_some,if_pos rfl,show(s-1)%4294967296=s-1 by omega,Qva hg (s-1) (by omega) (by omega),Option.bind_some];exact Qvf hg l hl hx l.length 0 k [] 0 (Quk e s 0) 0 (by omega) rfl (by omega) (by omega) hH.1 (by omega) (by omega) (by omega) hk
theorem rdR(l:List Rec)(i:Nat)(h:i<l.length):Qij l (i:Int)=l[i]:=by simp[Qij,List.getElem?_eq_getElem h]
def chkR(r:Rec):Int:=chk r.f0 r.f2 r.f3
def chkL:List Rec→Int
 | []=>0
 | r :: t=>if chkR r=0 then chkL t else chkR r
def ordL:List Rec→Int
 | []=>0
 | [_]=>0
 | a :: b :: t=>if b.f1≤a.f1 then 8 else ordL (b :: t)
def risL(l:List Rec):Int:=if chkL l=0 then ordL l else chkL l
theorem Qvh{l:List Rec}(h:chkL l=0):∀r∈l,chkR r=0:=by
 induction l with
 | nil=>intro r hr;cases hr
 | cons a t ih =>
  unfold chkL at h
  by_cases ha:chkR a=0
  ·rw[if_pos ha]at h;intro r hr
   rcases List.mem_cons.1 hr with rfl|hr
   ·exact ha
   ·exact ih h r hr
  ·rw[if_neg ha]at h;exact absurd h ha
theorem check_k(k:Nat)(d:Bool)(s:Int)(key v:ByteArray)(hk:1≤k):Qbx.f k d s key v=some (chk d key v) :=
 Qcy (g:=fun k=>Qbx.f k d s key v) (Qbx.mono d s key v) hk (Qki d s key v)
theorem Qvi{l:List Rec}{i:Nat}(h:i+1<l.length):ordL (l.drop i)=if l[i+1].f1≤l[i].f1 then 8 else ordL (l.drop (i+1)):=by
 rw[List.drop_eq_getElem_cons (by omega),List.drop_eq_getElem_cons h];rfl
theorem Qvj{l:List Rec}(h:l.length≤1):ordL l=0:=by
 match l,h with
 | [],_=>rfl
 | [_],_=>rfl
theorem Qvk(l:List Rec)(hl:l.length≤4611686018427387903):∀(d i k:Nat),i+d=l.length→d+1≤k→Qbz.l1 k l ((i+1:Nat):Int)=some (ordL (l.drop i))
 | 0,i,k,h,hk=>by
  obtain⟨k,rfl⟩:∃m,k=m+1:=⟨k-1,by omega⟩;unfold Qbz.l1;rw[if_neg (by omega),Qvj qq_31]
 | d+1,i,k,h,hk=>by
  obtain⟨k,rfl⟩:∃m,k=m+1:=⟨k-1,by omega⟩;unfold Qbz.l1
  by_cases hi:i+1<l.length
  ·have w1:=Qth (i+1) (by omega) (by omega);rw[Nat.add_sub_cancel]at w1;rw[if_pos (by omega),if_pos (by omega),w1,if_pos (by omega),if_pos (by omega),rdR l (i+1) hi,rdR l i (by omega),Qvi hi]
   by_cases ho:l[i+1].f1≤l[i].f1
   ·rw[if_pos ho,if_pos ho]
   ·rw[if_neg ho,if_neg ho,Qtg (i+1) (by omega)];exact Qvk l hl d (i+1) k (by omega) (by omega)
  ·rw[if_neg (by omega),Qvj qq_31]
theorem Qvl(l:List Rec)(hl:l.length≤4611686018427387903):∀(d i k:Nat),i+d=l.length→d+l.length+5≤k→Qbz.l0 k l l (l.length:Int) (i:Int)=some (if chkL (l.drop i)=0 then ordL l else chkL (l.drop i))
 | 0,i,k,h,hk=>by
  obtain⟨k,rfl⟩:∃m,k=m+1:=⟨k-1,by omega⟩;unfold Qbz.l0;rw[if_neg (by omega),List.drop_of_length_le (by omega)];exact Qvk l hl l.length 0 k (by omega) (by omega)
 | d+1,i,k,h,hk=>by
  obtain⟨k,rfl⟩:∃m,k=m+1:=⟨k-1,by omega⟩;have hi:i<l.length:=by omega
  unfold Qbz.l0;rw[if_pos (by omega),if_pos (by omega),if_pos (by omega),rdR l i hi,check_k k _ _ _ _ (by omega),Option.bind_some,List.drop_eq_getElem_cons hi];unfold chkL
  by_cases hc:chkR l[i]=0
  ·rw[if_pos hc,if_pos (show chk l[i].f0 l[i].f2 l[i].f3=0 from hc),Qtg i (by omega)];exact Qvl l hl d (i+1) k (by omega) (by omega)
  ·rw[if_neg hc,if_neg (show ¬chk l[i].f0 l[i].f2 l[i].f3=0 from hc),if_neg hc];rfl
theorem Qvm(l:List Rec)(k:Nat)(hl:l.length≤4611686018427387903)(hk:2*l.length+5≤k):Qbz.f k l=some (risL l) :=
 Qvl l hl l.length 0 k (by omega) (by omega)
def Qvn(r:Rec):List Int:=Qla (Qkk r.f0 r.f1 r.f2 r.f3)
def fsz(r:Rec):Int:=((Qvn r).length:Int)
def Wf(l:List Rec):Prop:=∀r∈l,0≤r.f1∧r.f1<18446744073709551616
theorem Qvo(d:Bool)(s:Int)(key v:ByteArray):(Qkk d s key v).length≤key.size+v.size+31:=by
 have h1:=Qjy 9 s;have h2:=Qjy 9 (key.size:Int);have h3:=Qjy 9 (v.size:Int);have h4:=Qct key;have h5:=Qct v
 cases d
 ·simp only[Qkk,List.length_append,List.length_cons,List.length_nil,Bool.false_eq_true,if_false];omega
 ·simp only[Qkk,List.length_append,List.length_cons,List.length_nil,if_true];omega
theorem Qvp(b:List Int):0<(Qla b).length∧(Qla b).length≤2*b.length+18:=by
 have h:=Qlb _ (b++leb (Qkt 0 b) 8) (Nat.le_refl _);rw[List.length_append,Qiq]at h;unfold Qla;rw[List.length_append];simp;omega
theorem Qvq(r:Rec)(hc:chkR r=0):1≤fsz r∧fsz r≤8388608:=by
 have h1:=Qkj hc;have h2:=Qvo r.f0 r.f1 r.f2 r.f3;have h3:=Qvp (Qkk r.f0 r.f1 r.f2 r.f3);unfold fsz Qvn;omega
theorem Qvr(r:Rec)(hc:chkR r=0)(h0:0≤r.f1)(h1:r.f1<18446744073709551616):Qbi.f r.f0 r.f1 r.f2 r.f3=some (Qvn r,0):=by
 have h2:=Qkj hc;have h3:=Qvo r.f0 r.f1 r.f2 r.f3;unfold Qbi.f Qbw.f;rw[if_pos h0,if_pos h1,if_pos (show chk r.f0 r.f2 r.f3=0 from hc),Option.bind_some,if_pos rfl];unfold Qbj.f;rw[if_pos (by dsimp only;omega),Option.bind_some];rfl
def Qvs(e s:Int)(l:List Rec):List Int × Int:=Qvc e s (l.map fsz) [] 0 (Quk e s 0) 0
theorem Qvt{l:List Rec}{i:Nat}(h:i<l.length):(l.take (i+1)).map fsz=(l.take i).map fsz++[fsz l[i]]:=by rw[List.take_succ_eq_append_getElem h,List.map_append];rfl
theorem Qvu{e s:Int}(h:Good e s)(l:List Rec)(hl:l.length≤1000000)(hw:Wf l)(hc:chkL l=0):∀(d i k:Nat),i+d=l.length→d+l.length+5≤k →
  Qbn.l0 k ((l.take i).map fsz) l (l.length:Int) (i:Int) e s=some ((Qvs e s l).1,l.map fsz,(Qvs e s l).2)
 | 0,i,k,hi,hk=>by
  obtain⟨k,rfl⟩:∃m,k=m+1:=⟨k-1,by omega⟩;unfold Qbn.l0;rw[if_neg (by omega),List.take_of_length_le (by omega),Qvg h (l.map fsz) k (by rw[List.length_map];exact hl) (fun x hx=>by
   obtain⟨r,hr,rfl⟩:=List.mem_map.1 hx;have:=Qvq r (Qvh hc r hr);omega) (by rw[List.length_map];omega),Option.bind_some]
  rfl
 | d+1,i,k,hi,hk=>by
  obtain⟨k,rfl⟩:∃m,k=m+1:=⟨k-1,by omega⟩;have hil:i<l.length:=by omega
  have hr:=List.getElem_mem hil;have hln:((l.take i).map fsz).length=i:=by rw[List.length_map,List.length_take];omega
  unfold Qbn.l0;rw[if_pos (by omega),if_pos (by omega),if_pos (by omega),rdR l i hil,Qvr l[i] (Qvh hc _ hr) (hw _ hr).1 (hw _ hr).2,Option.bind_some,if_pos (by omega),Qtg i (by omega)];have:=Qvu h l hl hw hc d (i+1) k (by omega) (by omega);rw[Qvt hil]at this;exact this
def Qvv(e s:Int)(l:List Rec):List Int × List Int × Int:=if 12≤e∧e≤24∧1≤s∧s≤65536 then if risL l=0 then((Qvs e s l).1,l.map fsz,(Qvs e s l).2)else([],[],risL l)else([],[],1)
theorem Qvw{l:List Rec}(h:risL l=0):chkL l=0:=by
 unfold risL at h
 by_cases hc:chkL l=0
 ·exact hc
 ·rw[if_neg hc]at h;exact h
theorem Qvx(e s:Int)(l:List Rec)(k:Nat)(hl:l.length≤1000000)(hw:Wf l)(hk:2*l.length+10≤k):Qbn.f k e s l=some (Qvv e s l):=by
 unfold Qbn.f Qvv
 by_cases hg:12≤e∧e≤24∧1≤s∧s≤65536
 ·rw[Qup hg,Option.bind_some,if_pos rfl,if_pos hg,Qvm l k (by omega) (by omega),Option.bind_some]
  by_cases hr:risL l=0
  ·rw[if_pos hr,if_pos hr];exact Qvu hg l hl hw (Qvw hr) l.length 0 k (by omega) (by omega)
  ·rw[if_neg hr,if_neg hr]
 ·rw[Quq hg,Option.bind_some,if_neg (by decide),if_neg hg]
theorem Qvy(e s:Int):∀(l out:List Int) (n u c:Int),0≤n→n<s→(∀x∈out,0≤x∧x<s)→(Qvc e s l out n u c).2=0 →
  (Qvc e s l out n u c).1.length=out.length+l.length∧∀x∈(Qvc e s l out n u c).1,0≤x∧x<s
 | [],out,n,u,c,h0,h1,ho,h=>⟨by simp[Qvc],ho⟩
 | x :: t,out,n,u,c,h0,h1,ho,h=>by
  unfold Qvc at h ⊢
  by_cases hf:Quv e (Quk e s (s-1)) 0 x=false
  ·rw[if_pos hf]at h;cases h
  ·rw [if_neg hf]at h ⊢
   by_cases hq:Quv e u c x=true
   ·rw[if_pos hq]at h ⊢;have:=Qvy e s t (out++[n]) n (u+x) (c+1) h0 h1 (fun y hy=>by
     rcases List.mem_append.1 hy with hy|hy
     ·exact ho y hy
     ·simp at hy;omega) h
    refine⟨?_,this.2⟩;rw[this.1,List.length_append,List.length_cons];simp;omega
   ·rw[if_neg hq]at h ⊢
    by_cases hs:n+1<s
    ·rw[if_pos hs]at h ⊢;have:=Qvy e s t (out++[n+1]) (n+1) (Quk e s (n+1)+x) 1 (by omega) hs (fun y hy=>by
      rcases List.mem_append.1 hy with hy|hy
      ·exact ho y hy
      ·simp at hy;omega) h
     refine⟨?_,this.2⟩;rw[this.1,List.length_append,List.length_cons];simp;omega
    ·rw[if_neg hs]at h;cases h
theorem Qvz{e s:Int}{l:List Rec}(h:(Qvv e s l).2.2=0)(hl:l.length≤1000000) :
  Good e s∧risL l=0∧(Qvs e s l).2=0∧Qvv e s l=((Qvs e s l).1,l.map fsz,0)∧(Qvs e s l).1.length=l.length∧∀x∈(Qvs e s l).1,0≤x∧x<s:=by
 unfold Qvv at h ⊢
 by_cases hg:12≤e∧e≤24∧1≤s∧s≤65536
 ·rw[if_pos hg]at h ⊢
  by_cases hr:risL l=0
  ·rw[if_pos hr]at h ⊢;have h2:(Qvs e s l).2=0:=h;have:=Qvy e s (l.map fsz) [] 0 (Quk e s 0) 0 (by omega) (by omega) (by simp) h2;refine⟨hg,hr,h2,by rw[h2],?_,this.2⟩;have h3:(Qvs e s l).1.length=_:=this.1;rw[h3,List.length_map];simp
  ·rw[if_neg hr]at h;exact absurd h hr
 ·rw[if_neg hg]at h;cases h
def few(l:List Rec)(m b:Int):Bool:=l.all (fun r=>decide ((r.f2.size:Int)≤b) && decide ((r.f3.size:Int)≤b)) && decide ((l.length:Int)≤m)
theorem Qwa(l:List Rec)(m b:Int)(hl:l.length≤4611686018427387903):∀(d i k:Nat),i+d=l.length→d+1≤k→Qar.l0 k l m b l (l.length:Int) (i:Int)=some ((l.drop i).all (fun r=>decide ((r.f2.size:Int)≤b) && decide ((r.f3.size:Int)≤b)) && decide ((l.length:Int)≤m))
 | 0,i,k,h,hk=>by
  obtain⟨k,rfl⟩:∃m,k=m+1:=⟨k-1,by omega⟩;unfold Qar.l0;rw[if_neg (by omega),List.drop_of_length_le (by omega)];simp
 | d+1,i,k,h,hk=>by
  obtain⟨k,rfl⟩:∃m,k=m+1:=⟨k-1,by omega⟩;have hi:i<l.length:=by omega
  unfold Qar.l0;rw[if_pos (by omega),if_pos (by omega),if_pos (by omega),rdR l i hi,List.drop_eq_getElem_cons hi,Qtg i (by omega),Qwa l m b hl d (i+1) k (by omega) (by omega)];rw[List.all_cons];generalize (l.drop (i+1)).all (fun r=>decide ((r.f2.size:Int)≤b) && decide ((r.f3.size:Int)≤b))=q;generalize l[i]=r
  by_cases h1:(r.f2.size:Int) > b
  ·rw[if_pos h1];simp[show ¬((r.f2.size:Int)≤b)by omega]
  ·rw[if_neg h1]
   by_cases h2:(r.f3.size:Int) > b
   ·rw[if_pos h2];simp[show ¬((r.f3.size:Int)≤b)by omega]
   ·rw[if_neg h2];simp[show((r.f2.size:Int)≤b)by omega,show((r.f3.size:Int)≤b)by omega]
theorem Qwb(l:List Rec)(m b:Int)(k:Nat)(hl:l.length≤4611686018427387903)(hk:l.length+1≤k):Qar.f k l m b=some (few l m b):=Qwa l m b hl l.length 0 k (by omega) (by omega)
theorem few_len{l:List Rec}{m b:Int}(h:few l m b=true):(l.length:Int)≤m∧∀r∈l,(r.f2.size:Int)≤b∧(r.f3.size:Int)≤b:=by
 unfold few at h;simp only[Bool.and_eq_true,List.all_eq_true,decide_eq_true_eq]at h;exact⟨h.2,fun r hr=>h.1 r hr⟩
theorem Bytes.app{a b:List Int}(h1:Bytes a)(h2:Bytes b):Bytes (a++b):=fun x hx=>(List.mem_append.1 hx).elim (h1 x) (h2 x)
theorem Bytes.left{a b:List Int}(h:Bytes (a++b)):Bytes a:=fun x hx=>h x (List.mem_append_left _ hx)
theorem Bytes.right{a b:List Int}(h:Bytes (a++b)):Bytes b:=fun x hx=>h x (List.mem_append_right _ hx)
theorem Bytes.cons{a:Int}{b:List Int}(h1:0≤a∧a<256)(h2:Bytes b):Bytes (a :: b):=fun x hx=>by
 rcases List.mem_cons.1 hx with rfl|hx
 ·exact h1
 ·exact h2 x hx
theorem Bytes.tail{a:Int}{b:List Int}(h:Bytes (a :: b)):Bytes b:=fun x hx=>h x (List.mem_cons_of_mem _ hx)
theorem Free.app{a b:List Int}(h1:Free a)(h2:Free b):Free (a++b):=fun x hx=>(List.mem_append.1 hx).elim (h1 x) (h2 x)
theorem Free.cons{a:Int}{b:List Int}(h1:a≠0)(h2:Free b):Free (a :: b):=fun x hx=>by
 rcases List.mem_cons.1 hx with rfl|hx
 ·exact h1
 ·exact h2 x hx
theorem Qwc:∀l:List Int,Free l∨∃a b,l=a++0 :: b∧Free a
 | []=>.inl (fun x hx=>by cases hx)
 | c :: l=>by
  by_cases hc:c=0
  ·exact .inr ⟨[],l,by rw[hc];rfl,fun x hx=>by cases hx⟩
  ·rcases Qwc l with h |⟨a,b,rfl,h⟩
   ·exact .inl (h.cons hc)
   ·exact .inr ⟨c :: a,b,rfl,h.cons hc⟩
theorem Qwd{b:List Int}(hb:Bytes b) :
  (∃a r,b=a++0 :: r∧Free a∧a.length<254∧Qjq b=((a.length:Int)+1) :: (a++Qjq r)) ∨
  (∃a r,b=a++r∧Free a∧a.length=254∧r≠[]∧Qjq b=255 :: (a++Qjq r)) ∨
  (Free b∧b.length≤254∧Qjq b=((b.length:Int)+1) :: b):=by
 rcases Qwc b with hf |⟨a,r,rfl,hf⟩
 ·by_cases hl:b.length≤254
  ·refine .inr (.inr ⟨hf,hl,?_⟩);rw[Qtd hb hf hl]
   congr 1
   omega
  ·refine .inr (.inl ⟨b.take 254,b.drop 254,(List.take_append_drop 254 b).symm,fun x hx=>hf x (List.mem_of_mem_take hx),by rw[List.length_take];omega,fun h=>by have:=congrArg List.length h;rw[List.length_drop]at this;simp at this;omega,?_⟩);have:=Qte (now:=b.take 254) (rest:=b.drop 254) (hb.take 254) (fun x hx=>hf x (List.mem_of_mem_take hx)) (by rw[List.length_take];omega) (fun h=>by have:=congrArg List.length h;rw[List.length_drop]at this;simp at this;omega);rw[List.take_append_drop]at this;exact this
 ·by_cases hl:a.length<254
  ·refine .inl ⟨a,r,rfl,hf,hl,?_⟩;rw[Qtc hb.left hf hl]
   congr 1
   omega
  ·have h1:a++0 :: r=a.take 254++(a.drop 254++0 :: r):=by rw[← List.append_assoc,List.take_append_drop]
   refine .inr (.inl ⟨a.take 254,a.drop 254++0 :: r,h1,fun x hx=>hf x (List.mem_of_mem_take hx),by rw[List.length_take];omega,by simp,?_⟩);rw[h1];exact Qte (hb.left.take 254) (fun x hx=>hf x (List.mem_of_mem_take hx)) (by rw[List.length_take];omega) (by simp)
theorem Qwe:∀(n:Nat) (b:List Int),b.length≤n→Bytes b→Free (Qjq b)∧Bytes (Qjq b)∧Qjq b≠[]
 | n,b,hn,hb=>by
  rcases Qwd hb with⟨a,r,rfl,hf,hl,e⟩ |⟨a,r,rfl,hf,hl,hr,e⟩ |⟨hf,hl,e⟩
  ·rw[List.length_append,List.length_cons]at hn
   match n,hn with
   | n+1,hn =>
    have ih:=Qwe n r (by omega) hb.right.tail;rw[e];exact⟨(hf.app ih.1).cons (by omega),(hb.left.app ih.2.1).cons (by omega),by simp⟩
  ·rw[List.length_append]at hn
   match n,hn with
   | 0,hn=>omega
   | n+1,hn =>
    have ih:=Qwe n r (by omega) hb.right;rw[e];exact⟨(hf.app ih.1).cons (by omega),(hb.left.app ih.2.1).cons (by omega),by simp⟩
  ·rw[e];exact⟨hf.cons (by omega),hb.cons (by omega),by simp⟩
def Qwf:Nat→List Int→List Int
 | 0,_=>[]
 | _,[]=>[]
 | k+1,c :: t=>t.take (c.toNat-1)++(if c<255∧t.drop (c.toNat-1)≠[]then 0 :: Qwf k (t.drop (c.toNat-1))else Qwf k (t.drop (c.toNat-1)))
theorem Qwg(k:Nat):Qwf k []=[]:=by cases k<;>rfl
theorem Qwh:∀(n:Nat) (b:List Int) (k:Nat),b.length≤n→Bytes b→b.length+1≤k→Qwf k (Qjq b)=b
 | n,b,k,hn,hb,hk=>by
  obtain⟨k,rfl⟩:∃m,k=m+1:=⟨k-1,by omega⟩
  rcases Qwd hb with⟨a,r,rfl,hf,hl,e⟩ |⟨a,r,rfl,hf,hl,hr,e⟩ |⟨hf,hl,e⟩
  ·rw[List.length_append,List.length_cons]at hn hk
   match n,hn with
   | n+1,hn =>
    have ih:=Qwh n r k (by omega) hb.right.tail (by omega);have hs:=Qwe _ r (Nat.le_refl _) hb.right.tail;have hc:((a.length:Int)+1).toNat-1=a.length:=by omega
    rw[e,Qwf,hc,List.take_left' rfl,List.drop_left' rfl,if_pos ⟨by omega,hs.2.2⟩,ih]
  ·rw[List.length_append]at hn hk
   match n,hn with
   | 0,hn=>omega
   | n+1,hn =>
    have ih:=Qwh n r k (by omega) hb.right (by omega);have hc:(255:Int).toNat-1=a.length:=by omega
    rw[e,Qwf,hc,List.take_left' rfl,List.drop_left' rfl,if_neg (fun h=>by omega),ih]
  ·have hc:((b.length:Int)+1).toNat-1=b.length:=by omega
   rw[e,Qwf,hc,List.take_of_length_le (Nat.le_refl _),List.drop_of_length_le (Nat.le_refl _),if_neg (fun h=>h.2 rfl),Qwg,List.append_nil]
theorem Qwi{a b:List Int}(ha:Bytes a)(hb:Bytes b)(h:Qjq a=Qjq b):a=b:=by
 have h1:=Qwh _ a (a.length+b.length+1) (Nat.le_refl _) ha (by omega);have h2:=Qwh _ b (a.length+b.length+1) (Nat.le_refl _) hb (by omega);exact h1.symm.trans ((congrArg _ h).trans h2)
theorem Qwj:∀ {a b x y:List Int},Free a→Free b→a++0 :: x=b++0 :: y→a=b∧x=y
 | [],[],x,y,_,_,h=>⟨rfl,by simpa using h⟩
 | [],c :: b,x,y,_,hb,h=>by
  have h1:=List.cons.inj h;exact absurd h1.1.symm (hb c (List.mem_cons_self ..))
 | c :: a,[],x,y,ha,_,h=>by
  have h1:=List.cons.inj h;exact absurd h1.1 (ha c (List.mem_cons_self ..))
 | c :: a,d :: b,x,y,ha,hb,h=>by
  have h1:=List.cons.inj h;have ih:=Qwj (fun x hx=>ha x (List.mem_cons_of_mem _ hx)) (fun x hx=>hb x (List.mem_cons_of_mem _ hx)) h1.2;exact⟨by rw[h1.1,ih.1],ih.2⟩
theorem Qwk:∀(n:Nat) (x:Int),Bytes (leb x n)
 | 0,_=>fun y hy=>by cases hy
 | n+1,x=>(Qwk n (x/256)).cons (by omega)
theorem Qwl{a b x y:List Int}(ha:Bytes a)(hb:Bytes b)(h:Qla a++x=Qla b++y):a=b∧x=y:=by
 unfold Qla at h;rw[List.append_assoc,List.append_assoc]at h;have hA:=ha.app (Qwk 8 (Qkt 0 a));have hB:=hb.app (Qwk 8 (Qkt 0 b));have h1:=Qwj (Qwe _ _ (Nat.le_refl _) hA).1 (Qwe _ _ (Nat.le_refl _) hB).1 h;have h2:=Qwi hA hB h1.1;exact⟨(List.append_inj' h2 (by rw[Qiq,Qiq])).1,h1.2⟩
theorem Qwm(a:List Int):(0:Int)∈Qla a:=by unfold Qla;simp
theorem Qwn:∀(n:Nat) {x y:Int} {a b:List Int},0≤x→0≤y→vput n x++a=vput n y++b→x=y∧a=b
 | 0,x,y,a,b,_,_,h=>by
  have h1:=List.cons.inj h;exact⟨h1.1,by simpa using h1.2⟩
 | n+1,x,y,a,b,hx,hy,h=>by
  unfold vput at h
  by_cases h1:x<128
  ·by_cases h2:y<128
   ·rw[if_pos h1,if_pos h2]at h;have h3:=List.cons.inj h;exact⟨h3.1,by simpa using h3.2⟩
   ·rw[if_pos h1,if_neg h2]at h;have h3:=(List.cons.inj h).1;omega
  ·by_cases h2:y<128
   ·rw[if_neg h1,if_pos h2]at h;have h3:=(List.cons.inj h).1;omega
   ·rw[if_neg h1,if_neg h2]at h;have h3:=List.cons.inj h;have ih:=Qwn n (by omega) (by omega) h3.2;exact⟨by omega,ih.2⟩
theorem Qwo:∀(n:Nat) (x:Int),0≤x→x<256*128^n→Bytes (vput n x)
 | 0,x,h0,h1=>by
  unfold vput;intro y hy
  rcases List.mem_singleton.1 hy with rfl
  omega
 | n+1,x,h0,h1=>by
  unfold vput;split
  ·intro y hy
   rcases List.mem_singleton.1 hy with rfl
   omega
  ·refine(Qwo n (x/128) (by omega) ?_).cons (by omega);rw[Int.pow_succ]at h1;omega
theorem Qwp(x:Int)(h0:0≤x)(h1:x<18446744073709551616):Bytes (vput 9 x):=Qwo 9 x h0 (by omega)
theorem Qwq(d:Bool)(s:Int)(key v:ByteArray)(h0:0≤s)(h1:s<18446744073709551616)(hk:key.size≤4611686018427387904)(hv:v.size≤4611686018427387904):Bytes (Qkk d s key v):=by
 unfold Qkk;refine Bytes.app (Bytes.app (Bytes.app ?_ (Qwp s h0 h1)) ((Qwp _ (by omega) (by omega)).app (Qpf key))) ?_
 ·intro y hy
  rcases List.mem_singleton.1 hy with rfl
  split<;>omega
 ·split
  ·intro y hy;cases hy
  ·exact(Qwp _ (by omega) (by omega)).app (Qpf v)
theorem Qwr{key v:ByteArray}(h:chk true key v=0):v=ByteArray.empty:=by
 unfold chk at h;split at h
 ·cases h
 split at h
 ·cases h
 split at h
 ·cases h
 ·rename_i h3;have h4:v.toList=[]:=by simpa using h3
  have h5:=(Qtf v).1 h4;refine Qsw (List.eq_nil_of_length_eq_zero ?_);rw[Qct];exact h5
theorem Qws{d d':Bool}{s s':Int}{key key' v v':ByteArray}(h0:0≤s)(h0':0≤s')(hc:chk d key v=0)(hc':chk d' key' v'=0)(h:Qkk d s key v=Qkk d' s' key' v') :
  d=d'∧s=s'∧key=key'∧v=v':=by
 unfold Qkk at h;have hz:∀(q:Bool) (a b c:List Int),[if q=true then(3:Int)else 2]++a++b++c=(if q=true then(3:Int)else 2) :: (a++(b++c)):=fun q a b c=>by simp
 rw[hz,hz]at h;have h1:=List.cons.inj h;have hd:d=d':=by
  cases d<;>cases d' <;> first|rfl |(have:=h1.1;simp at this)
 subst hd;have h2:=Qwn 9 h0 h0' h1.2;have h3:=h2.2;rw[List.append_assoc,List.append_assoc]at h3;have h4:=Qwn 9 (by omega) (by omega) h3;have hks:(bytesOf key).length=(bytesOf key').length:=by rw[Qct,Qct];omega
 have h5:=List.append_inj h4.2 hks;refine⟨rfl,h2.1,Qsw h5.1,?_⟩
 cases d with
 | true=>rw[Qwr hc,Qwr hc']
 | false =>
  have h6:=h5.2;simp only[Bool.false_eq_true,if_false]at h6;exact Qsw (Qwn 9 (by omega) (by omega) h6).2
def okR(r:Rec):Prop:=chkR r=0∧0≤r.f1∧r.f1<18446744073709551616
theorem Qwt{r:Rec}(h:okR r):Bytes (Qkk r.f0 r.f1 r.f2 r.f3):=by
 have:=Qkj h.1;exact Qwq _ _ _ _ h.2.1 h.2.2 (by omega) (by omega)
theorem Qwu{r r':Rec}{x y:List Int}(h:okR r)(h':okR r')(e:Qvn r++x=Qvn r'++y):r=r'∧x=y:=by
 have h1:=Qwl (Qwt h) (Qwt h') e;have h2:=Qws h.2.1 h'.2.1 h.1 h'.1 h1.1;refine⟨?_,h1.2⟩
 cases r;cases r'
 obtain⟨a,b,c,d⟩:=h2;simp only at a b c d;rw[a,b,c,d]
def Qwv(T:List Int):Prop:=∀r x,okR r→T≠Qvn r++x
theorem Qww:∀ {g g':List Rec} {T T':List Int},(∀r∈g,okR r)→(∀r∈g',okR r)→Qwv T→Qwv T'→g.flatMap Qvn++T=g'.flatMap Qvn++T'→g=g'∧T=T'
 | [],[],T,T',_,_,_,_,e=>⟨rfl,by simpa using e⟩
 | [],r :: g',T,T',_,h',hT,_,e=>by
  rw[List.flatMap_nil,List.nil_append,List.flatMap_cons,List.append_assoc]at e;exact absurd e (hT r _ (h' r (List.mem_cons_self ..)))
 | r :: g,[],T,T',h,_,_,hT',e=>by
  rw[List.flatMap_nil,List.nil_append,List.flatMap_cons,List.append_assoc]at e;exact absurd e.symm (hT' r _ (h r (List.mem_cons_self ..)))
 | r :: g,r' :: g',T,T',h,h',hT,hT',e=>by
  rw[List.flatMap_cons,List.append_assoc,List.flatMap_cons,List.append_assoc]at e;have h1:=Qwu (h r (List.mem_cons_self ..)) (h' r' (List.mem_cons_self ..)) e;have ih:=Qww (fun x hx=>h x (List.mem_cons_of_mem _ hx)) (fun x hx=>h' x (List.mem_cons_of_mem _ hx)) hT hT' h1.2;exact⟨by rw[h1.1,ih.1],ih.2⟩
theorem Qwx(m:Nat):Qwv (List.replicate m 255):=by
 intro r x hr e;have h1:(0:Int)∈List.replicate m (255:Int):=by rw[e];exact List.mem_append_left _ (Qwm _)
 have:=List.eq_of_mem_replicate h1;omega
theorem Qwy(x:Ent):Bytes (ent x):=(Qwk 8 _).app (Qwk 4 _)
theorem Qwz{α:Type}(f:α→List Int)(hf:∀x,Bytes (f x)):∀l:List α,Bytes (l.flatMap f)
 | []=>fun y hy=>by cases hy
 | x :: t=>by rw[List.flatMap_cons];exact(hf x).app (Qwz f hf t)
theorem Qxa(u:Int)(l:List Ent)(p:List Int):Qwv (Qnp u l++p):=by
 intro r x hr e;unfold Qnp Qvn at e;have hb:Bytes ([4]++leb (l.length:Int) 4++leb u 4++l.flatMap ent++(Qmk l).flatMap (fun x=>leb x 8)):=by
  refine Bytes.app (Bytes.app (Bytes.app (Bytes.app ?_ (Qwk 4 _)) (Qwk 4 _)) (Qwz _ Qwy l)) (Qwz _ (fun x=>Qwk 8 x) _);intro y hy
  rcases List.mem_singleton.1 hy with rfl
  omega
 have h1:=(Qwl hb (Qwt hr) e).1;unfold Qkk at h1;simp only[List.cons_append,List.nil_append,List.append_assoc]at h1;have h2:=(List.cons.inj h1).1;split at h2<;>omega
theorem Qyc:∀(n:Nat) (b:List Int),b.length≤n→(Qjq b).length≤b.length+1+(b.length-1)/254
 | n,b,hn=>by
  rcases Int.lt_or_le (ixOf (b.take 254) 0) 0 with h0|h0
  ·by_cases hl:254<b.length
   ·rw[Qju h0 hl]
    match n,hn with
    | 0,hn=>omega
    | n+1,hn =>
     have ih:=Qyc n (b.drop 254) qq_31;rw[List.length_drop]at ih;rw[List.length_cons,List.length_append,List.length_take];omega
   ·rw[Qjv h0 hl,List.length_cons];omega
  ·obtain⟨p,hp⟩:=Int.eq_ofNat_of_zero_le h0;have h1:=(Qjo (b.take 254) 0).2;rw[List.length_take,hp]at h1;rw[Qjt hp]
   match n,hn with
   | 0,hn=>omega
   | n+1,hn =>
    have ih:=Qyc n (b.drop (p+1)) qq_31;rw[List.length_drop]at ih;rw[List.length_cons,List.length_append,List.length_take];omega
theorem Qyd(b:List Int):(Qla b).length≤b.length+8+1+(b.length+8-1)/254+1:=by
 have h:=Qyc _ (b++leb (Qkt 0 b) 8) (Nat.le_refl _);rw[List.length_append,Qiq]at h;unfold Qla;rw[List.length_append];simp;omega
theorem Qye(l:List Ent):(Qmk l).length=(l.length+15)/16:=by simp[Qmk,chN]
theorem Qyf(u:Int)(l:List Ent):((Qnp u l).length:Int)≤Quo (l.length:Int):=by
 have h:=Qyd ([4]++leb l.length 4++leb u 4++l.flatMap ent++(Qmk l).flatMap (fun x=>leb x 8));have h2:=Qnu (l.length:Int) u l;rw[List.nil_append]at h2;rw[h2,Qye]at h;unfold Qnp Quo;obtain⟨c,hc⟩:∃c,c=(l.length+15)/16:=⟨_,rfl⟩;have hcI:((l.length:Int)+15)/16=(c:Int):=by omega
 rw[hcI];rw[← hc]at h;clear hc hcI h2;obtain⟨g,hg⟩:∃g,g=(9+12*l.length+8*c+8-1)/254:=⟨_,rfl⟩;have hgI:(9+12*(l.length:Int)+8*(c:Int)+8-1)/254=(g:Int):=by omega
 rw[hgI];rw[← hg]at h;clear hg hgI;omega
theorem Qyg(x y z:Ent)(h1:(!(ltOf cfE) y x)=true)(h2:(!(ltOf cfE) z y)=true):(!(ltOf cfE) z x)=true:=by
 rw[Qmw]at *;simp at *;omega
theorem Qyh(x y:Ent):((!(ltOf cfE) y x) ||(!(ltOf cfE) x y))=true:=by
 rw[Qmw,Qmw];simp;omega
theorem Qyi(l:List Ent):(Qmu l).Pairwise (fun x y=>(!(ltOf cfE) y x)=true):=List.pairwise_mergeSort Qyg Qyh l
theorem Qyj:∀(l:List Ent),l.Pairwise (fun x y=>(!(ltOf cfE) y x)=true)→l.Nodup→Qnh l=true
 | [],_,_=>rfl
 | [_],_,_=>rfl
 | a :: b :: t,hp,hn=>by
  have hp2:=List.pairwise_cons.1 hp;have hn2:=List.pairwise_cons.1 hn;have ih:=Qyj (b :: t) hp2.2 hn2.2;have h1:=hp2.1 b (by simp);have h2:=hn2.1 b (by simp);have h3:ltOf cfE a b=true:=by
   cases h:ltOf cfE a b with
   | true=>rfl
   | false=>exact absurd (totE a b h (by simpa using h1)) h2
  unfold Qnh ltE;rw[ih]
  simpa [ltOf]using h3
theorem Qyk{l:List Ent}(h:l.Nodup):Qnh (Qmu l)=true:=Qyj _ (Qyi l) ((Qne l).nodup_iff.2 h)
def okB(e s n:Int)(i:Nat)(B:Bd):Prop :=
 B.1=(e,s,n,(B.2.1.length:Int),(B.2.2.length:Int))∧B.2.2.length≤i∧(∀x∈B.2.2,wfE x∧x.f1<(B.2.1.length:Int))∧B.2.2.Pairwise (fun x y=>x.f1<y.f1)∧(B.2.1.length:Int)≤16777216
def putB(e s n:Int)(B:Bd)(r:Rec):Bd :=
 ((e,s,n,((B.2.1++Qvn r).length:Int),((B.2.2.length+1:Nat):Int)),B.2.1++Qvn r,B.2.2++[⟨Qkt 0 (bytesOf r.f2),(B.2.1.length:Int)%4294967296⟩])
def freshB(e s n:Int):Bd:=((e,s,n,Quk e s n,0),Qlf e s n,[])
theorem Qyl{e s:Int}(h:Good e s)(n:Int)(h0:0≤n)(h1:n<s):newB e s n=some (freshB e s n):=by
 unfold newB;rw[Qva h n h0 h1,Option.bind_some,Quz h n h0 h1,Option.bind_some];simp[freshB]
theorem Qym(e s n:Int)(i:Nat):okB e s n i (freshB e s n):=by
 have:=Qum e s n;refine⟨by simp[freshB,Quk],by simp[freshB],by simp[freshB],by simp[freshB],?_⟩;unfold Quk at this;simp only[freshB];omega
theorem Qyn{e s:Int}(h:Good e s){x:Int}(hx1:x≤1152921504606846976)(hf:Quv e (Quk e s (s-1)) 0 x=true):Qbv.f e s x=some false:=by
 have hr:=Qum e s (s-1);have hg:=h;obtain⟨g1,g2,g3,g4⟩:=hg;unfold Qbv.f;rw[show(s-1)%4294967296=s-1 by omega,Qva h (s-1) (by omega) (by omega),Option.bind_some];dsimp only;rw[if_pos rfl,Quw h _ _ _ _ (by omega) (by omega) (by omega) (by omega) hx1,hf];rfl
theorem Qyo{e s n:Int}(h:Good e s){i:Nat}{B:Bd}{r:Rec}(hB:okB e s n i B)(hi:i≤1000000)(hc:chkR r=0)(hw:0≤r.f1∧r.f1<18446744073709551616)
  (hl:Quv e (Quk e s (s-1)) 0 (fsz r)=true) (hf:Quv e (B.2.1.length:Int) (B.2.2.length:Int) (fsz r)=true) :
  addB B r=some (putB e s n B r)∧okB e s n (i+1) (putB e s n B r)∧((putB e s n B r).2.1.length:Int)+Quo ((putB e s n B r).2.2.length:Int)≤szN e∧(putB e s n B r).2.2≠[]:=by
 obtain⟨b1,b2,b3,b4,b5⟩:=hB;have hx:=Qvq r hc;have hft:=Qux hf;have hsz:=Qur h.1 h.2.1;have hm:=Quu ((B.2.2.length:Int)+1) (by omega) (by omega);have hlen:((B.2.1++Qvn r).length:Int)=(B.2.1.length:Int)+fsz r:=by rw[List.length_append];unfold fsz;omega
 have hh:=Qkz 0 (bytesOf r.f2);have hmod:(B.2.1.length:Int)%4294967296=(B.2.1.length:Int):=by omega
 refine⟨?_,⟨?_,?_,?_,?_,?_⟩,?_,?_⟩
 ·unfold addB;rw[if_pos (show chk r.f0 r.f2 r.f3=0 from hc),Qvr r hc hw.1 hw.2,Option.bind_some,b1];dsimp only;rw[show((Qvn r).length:Int)=fsz r from rfl,Qyn h (by omega) hl,Option.bind_some,Quy h n _ _ _ (by omega) (by omega) (by omega) (by omega) (by omega) hf,Option.bind_some];dsimp only;rw[if_pos ⟨rfl,rfl,rfl,by have hfz:((Qvn r).length:Int)=fsz r:=rfl;omega,by omega⟩];unfold putB;rw[hlen];simp
 ·simp[putB]
 ·simp only[putB,List.length_append,List.length_cons,List.length_nil];omega
 ·intro x hxm;simp only[putB]at hxm ⊢;rw[hlen]
  rcases List.mem_append.1 hxm with hm' | hm'
  ·have:=b3 x hm';exact⟨this.1,by omega⟩
  ·simp only[List.mem_singleton]at hm';subst hm';rw[hmod];exact⟨⟨hh,(show(0:Int)≤(B.2.1.length:Int)by omega),(show(B.2.1.length:Int)<4294967296 by omega)⟩,by dsimp only;omega⟩
 ·simp only[putB];rw[List.pairwise_append];refine⟨b4,by simp,?_⟩;intro x hx y hy;simp only[List.mem_singleton]at hy;subst hy;rw[hmod];exact(b3 x hx).2
 ·simp only[putB];rw[hlen];omega
 ·simp only[putB];rw[hlen,List.length_append];simp only[List.length_cons,List.length_nil];have:(((B.2.2.length+(0+1):Nat)):Int)=(B.2.2.length:Int)+1:=by omega
  rw[this];omega
 ·simp[putB]
theorem Qyp(u:Int){l:List Ent}(h:∀x∈l,x.f1<u):(Qmu l).any (fun x=>decide (u≤x.f1))=false:=by
 rw[List.any_eq_false];intro x hx;have:=h x ((Qne l).mem_iff.1 hx);simp;omega
theorem Qyq{l:List Ent}(h:l.Pairwise (fun x y=>x.f1<y.f1)):l.Nodup:=h.imp (fun {a b} hab he=>by subst he;omega)
theorem Qyr{e s n:Int}(h:Good e s){i:Nat}{B:Bd}(hB:okB e s n i B)(hi:i≤1000000)(hne:B.2.2≠[])(hr:(B.2.1.length:Int)+Quo (B.2.2.length:Int)≤szN e) :
  ∃o,Qnx B=some o∧o.length=(szN e).toNat∧B.2.1 <+: o:=by
 obtain⟨b1,b2,b3,b4,b5⟩:=hB;have hsz:=Qur h.1 h.2.1;have hu:Qnw B=(B.2.1.length:Int):=by unfold Qnw;omega
 have hfl:=Qyf (Qnw B) (Qmu B.2.2);rw[Qmv]at hfl;have hn0:B.2.2.length≠0:=fun he=>hne (List.eq_nil_of_length_eq_zero he)
 have hck:Qnm (Qnw B) (Qmu B.2.2)=0:=by
  unfold Qnm;rw[Qmv,if_neg hn0,if_neg (by omega),Qyk (Qyq b4),if_neg (by simp),Qyp _ (fun x hx=>by rw[hu];exact(b3 x hx).2),if_neg (by simp)]
 unfold Qnx;rw[b1];dsimp only;rw[Qus h,Option.bind_some,if_pos ⟨hn0,by omega,fun x hx=>(b3 x hx).1,hck,by omega,by omega⟩];refine⟨_,rfl,?_,?_⟩
 ·rw[List.length_append,List.length_replicate,List.length_append];omega
 ·rw[List.append_assoc];exact List.prefix_append _ _
theorem Qys{e s n:Int}(h:Good e s){i:Nat}{B:Bd}(hB:okB e s n i B)(hr:(B.2.1.length:Int)≤szN e) :
  ∃o,Qny B=some o∧o.length=(szN e).toNat∧B.2.1 <+: o:=by
 obtain⟨b1,b2,b3,b4,b5⟩:=hB;have hsz:=Qur h.1 h.2.1;unfold Qny;rw[b1];dsimp only;rw[Qus h,Option.bind_some,if_pos ⟨by omega,by omega⟩];refine⟨_,rfl,?_,List.prefix_append _ _⟩;rw[List.length_append,List.length_replicate];omega
theorem Qyt(e s:Int):∀(l out:List Int) (n u c:Int),(Qvc e s l out n u c).2=0→out <+: (Qvc e s l out n u c).1
 | [],out,n,u,c,h=>by unfold Qvc;exact List.prefix_rfl
 | x :: t,out,n,u,c,h=>by
  unfold Qvc at h ⊢
  by_cases hf:Quv e (Quk e s (s-1)) 0 x=false
  ·rw[if_pos hf]at h;cases h
  ·rw[if_neg hf]at h ⊢
   by_cases hq:Quv e u c x=true
   ·rw[if_pos hq]at h ⊢;exact(List.prefix_append _ _).trans (Qyt e s t _ _ _ _ h)
   ·rw[if_neg hq]at h ⊢
    by_cases hs:n+1<s
    ·rw[if_pos hs]at h ⊢;exact(List.prefix_append _ _).trans (Qyt e s t _ _ _ _ h)
    ·rw[if_neg hs]at h;cases h
theorem Qyu{into:List Int}{i:Nat}{x:Int}(h:into.take i++[x] <+: into)(hi:i<into.length):rd into (i:Int)=x∧into.take (i+1)=into.take i++[x]:=by
 obtain⟨t,ht⟩:=h;have h1:=congrArg (fun l=>l[i]?) ht;have h2:(into.take i).length=i:=by rw[List.length_take];omega
 have h3:(into.take i++[x]++t)[i]? = some x:=by
  rw[List.append_assoc,List.getElem?_append_right (by omega),h2,Nat.sub_self];rfl
 rw[h3]at h1;refine⟨?_,?_⟩
 ·rw[rd_get hi];have h4:=List.getElem?_eq_getElem hi;rw[← h1]at h4;exact(Option.some.inj h4).symm
 ·rw[List.take_add_one,← h1];rfl
theorem Qyv{e s n:Int}(h:Good e s)(h1:n<s):n.toNat*(szN e).toNat+(szN e).toNat≤lim:=by
 have hsz:=Qur h.1 h.2.1;obtain⟨g1,g2,g3,g4⟩:=h;have:(n.toNat+1)*(szN e).toNat≤65536*16777216:=Nat.mul_le_mul (by omega) (by omega);rw[Nat.add_mul,Nat.one_mul]at this;unfold lim;omega
theorem Qyw(e s:Int)(l:List Rec)(k:Nat)(hl:l.length≤1000000)(hw:Wf l)(hk:2*l.length+10≤k)(h:(Qvv e s l).2.2≠0):Qbm.f k e s l=some ([],(Qvv e s l).2.2):=by
 unfold Qbm.f;rw[Qvx e s l k hl hw hk,Option.bind_some,if_neg h]
theorem Qyx(l:List Ent)(hw:∀x∈l,wfE x):∀x∈Qmk l,0≤x∧x<18446744073709551616:=by
 intro x hx;unfold Qmk chN at hx;obtain⟨j,hj,rfl⟩:=List.mem_map.1 hx;rw[List.mem_range]at hj;have h1:j*16<l.length:=by omega
 unfold Qmj;rw[rdE l _ h1];exact(hw _ (List.getElem_mem h1)).1
def Qyy(e s n:Int):Bd→List Rec→Bd
 | B,[]=>B
 | B,r :: t=>Qyy e s n (putB e s n B r) t
def Qyz(B:Bd)(b:Bool):List Int:=B.2.1++(if b=true then Qnp (Qnw B) (Qmu B.2.2)else [])
def partB(e s n:Int)(g:List Rec):Bd:=Qyy e s n (freshB e s n) g
def segB(e s n:Int)(g:List Rec)(b:Bool):List Int:=Qyz (partB e s n g) b++List.replicate ((szN e).toNat-(Qyz (partB e s n g) b).length) 255
def imgP(e s:Int):Int→List (List Rec)→List Int
 | _,[]=>[]
 | n,[g]=>segB e s n g false
 | n,g :: h :: t=>segB e s n g true++imgP e s (n+1) (h :: t)
def partsS(into:List Int):Nat→List Rec→List Rec→List (List Rec)
 | _,[],cur=>[cur]
 | i,r :: rs,cur=>if rd into (i:Int)=rd into ((i:Int)-1)then partsS into (i+1) rs (cur++[r])else cur :: partsS into (i+1) rs [r]
theorem partsS_ne(into:List Int):∀(rs:List Rec) (i:Nat) (cur:List Rec),∃g t,partsS into i rs cur=g :: t
 | [],i,cur=>⟨cur,[],rfl⟩
 | r :: rs,i,cur=>by
  unfold partsS;split
  ·exact partsS_ne into rs (i+1) _
  ·exact⟨_,_,rfl⟩
theorem partsS_flat(into:List Int):∀(rs:List Rec) (i:Nat) (cur:List Rec),(partsS into i rs cur).flatten=cur++rs
 | [],i,cur=>by simp[partsS]
 | r :: rs,i,cur=>by
  unfold partsS;split
  ·rw[partsS_flat into rs];simp
  ·rw[List.flatten_cons,partsS_flat into rs];simp
theorem fillB_snoc(e s n:Int):∀(g:List Rec) (B:Bd) (r:Rec),Qyy e s n B (g++[r])=putB e s n (Qyy e s n B g) r
 | [],_,_=>rfl
 | x :: g,B,r=>by
  show Qyy e s n (putB e s n B x) (g++[r])=_;rw[fillB_snoc e s n g];rfl
theorem fillB_frames(e s n:Int):∀(g:List Rec) (B:Bd),(Qyy e s n B g).2.1=B.2.1++g.flatMap Qvn
 | [],B=>by simp[Qyy]
 | x :: g,B=>by
  show(Qyy e s n (putB e s n B x) g).2.1=_;rw[fillB_frames e s n g,List.flatMap_cons];simp[putB]
theorem fillB_count(e s n:Int):∀(g:List Rec) (B:Bd),(Qyy e s n B g).2.2.length=B.2.2.length+g.length
 | [],B=>by simp[Qyy]
 | x :: g,B=>by
  show(Qyy e s n (putB e s n B x) g).2.2.length=_;rw[fillB_count e s n g];simp[putB];omega
def GoodG(e s n:Int)(g:List Rec):Prop:=0≤n∧n<s∧okB e s n 1000000 (partB e s n g)∧g≠[]∧((partB e s n g).2.1.length:Int)+Quo ((partB e s n g).2.2.length:Int)≤szN e
def AllG(e s:Int):Int→List (List Rec)→Prop
 | _,[]=>True
 | n,g :: t=>GoodG e s n g∧AllG e s (n+1) t
def StepsI(into:List Int):Nat→Nat→Int→Prop
 | 0,i,_=>i=into.length
 | d+1,i,n=>i<into.length∧((rd into (i:Int)=n∧StepsI into d (i+1) n)∨(rd into (i:Int)=n+1∧StepsI into d (i+1) (n+1)))
theorem sealB_val{B:Bd}{o:List Int}{sz:Int}(h:Qnx B=some o)(hs:Qaq.f B.1.1 B.1.2.1=some sz):o=Qyz B true++List.replicate (sz.toNat-(Qyz B true).length) 255:=by
 unfold Qnx at h;rw[hs,Option.bind_some]at h;split at h
 ·cases h
  rfl
 ·cases h
theorem openB_val{B:Bd}{o:List Int}{sz:Int}(h:Qny B=some o)(hs:Qaq.f B.1.1 B.1.2.1=some sz):o=Qyz B false++List.replicate (sz.toNat-(Qyz B false).length) 255:=by
 unfold Qny at h;rw[hs,Option.bind_some]at h;split at h
 ·cases h
  simp[Qyz]
 ·cases h
theorem okB_more{e s n:Int}{i j:Nat}{B:Bd}(h:okB e s n i B)(hij:i≤j):okB e s n j B:=⟨h.1,by have:=h.2.1;omega,h.2.2⟩
theorem part_ne{e s n:Int}{g:List Rec}:(partB e s n g).2.2≠[]↔g≠[]:=by
 have h:=fillB_count e s n g (freshB e s n);have h0:(freshB e s n).2.2.length=0:=rfl;unfold partB;rw[← List.length_pos_iff,← List.length_pos_iff,h,h0];omega
theorem enc_img{e s:Int}(hG:Good e s)(l:List Rec)(into:List Int)(hl:l.length≤1000000)(hw:Wf l)(hc:chkL l=0)(hil:into.length=l.length) :
  ∀(d i:Nat) (out:List Int) (n:Int) (cur:List Rec),i+d=l.length→1≤i→okB e s n i (partB e s n cur)→cur≠[]→((partB e s n cur).2.1.length:Int)+Quo ((partB e s n cur).2.2.length:Int)≤szN e→0≤n→n<s→out.length=n.toNat*(szN e).toNat→rd into ((i:Int)-1)=n →
  Qvc e s ((l.drop i).map fsz) (into.take i) n ((partB e s n cur).2.1.length:Int) ((partB e s n cur).2.2.length:Int)=(into,0) →
  encG e s into i (l.drop i) out (some (partB e s n cur))=some (out++imgP e s n (partsS into i (l.drop i) cur))∧AllG e s n (partsS into i (l.drop i) cur)∧StepsI into d i n:=by
 have hsz:=Qur hG.1 hG.2.1;have hsize:∀ {m:Int} {i:Nat} {B:Bd},okB e s m i B→Qaq.f B.1.1 B.1.2.1=some (szN e):=fun h=>by rw[h.1];exact Qus hG
 intro d
 induction d with
 | zero =>
  intro i out n cur hd hi hB hne hr h0 h1 ho hprev hp;have hi':i=into.length:=by omega
  have hmm:=Quu ((partB e s n cur).2.2.length:Int) (by omega) (by have:=hB.2.1;omega);obtain⟨o,e1,e2,t,e3⟩:=Qys hG hB (by omega);have hlim:=Qyv hG h1;have hv:=openB_val e1 (hsize hB);rw[List.drop_of_length_le (by omega)];refine⟨?_,⟨⟨h0,h1,okB_more hB (by omega),hne,hr⟩,trivial⟩,hi'⟩;unfold encG;rw[e1,Option.bind_some,if_pos (by omega),hv];rfl
 | succ d ihd =>
  intro i out n cur hd hi hB hne hr h0 h1 ho hprev hp;have hlt:i<l.length:=by omega
  have hlt2:i<into.length:=by omega
  have hcr:chkR l[i]=0:=Qvh hc _ (List.getElem_mem hlt);have hwr:=hw l[i] (List.getElem_mem hlt);have hx:=Qvq l[i] hcr;have hlen:∀q:List Int,((q++Qvn l[i]).length:Int)=(q.length:Int)+fsz l[i]:=fun q=>by rw[List.length_append];unfold fsz;omega
  have hiB:=hB.2.1;have hb5:=hB.2.2.2.2;have hne2:(partB e s n cur).2.2≠[]:=part_ne.2 hne;rw[List.drop_eq_getElem_cons hlt]at hp ⊢;rw[List.map_cons]at hp;unfold Qvc at hp
  by_cases hf:Quv e (Quk e s (s-1)) 0 (fsz l[i])=false
  ·rw[if_pos hf]at hp;cases hp
  ·rw [if_neg hf]at hp;have hft:Quv e (Quk e s (s-1)) 0 (fsz l[i])=true:=by simpa using hf
   by_cases hq:Quv e ((partB e s n cur).2.1.length:Int) ((partB e s n cur).2.2.length:Int) (fsz l[i])=true
   ·rw[if_pos hq]at hp;obtain⟨q1,q2⟩:=Qyu (by have:=Qyt e s _ _ _ _ _ (congrArg Prod.snd hp);rw[hp]at this;exact this) hlt2;obtain⟨a1,a2,a3,a4⟩:=Qyo hG hB (by omega) hcr hwr hft hq;have hpb:putB e s n (partB e s n cur) l[i]=partB e s n (cur++[l[i]]):=(fillB_snoc e s n cur _ _).symm;have hlB:((partB e s n (cur++[l[i]])).2.1.length:Int)=((partB e s n cur).2.1.length:Int)+fsz l[i]:=by rw[← hpb];exact hlen _
    have hlT:((partB e s n (cur++[l[i]])).2.2.length:Int)=((partB e s n cur).2.2.length:Int)+1:=by rw[← hpb];simp[putB]
    rw[hpb]at a1 a2 a3;rw[← q2,← hlB,← hlT]at hp;obtain⟨f1,f2,f3⟩:=ihd (i+1) out n (cur++[l[i]]) (by omega) (by omega) a2 (by simp) a3 h0 h1 ho (by rw[show((i+1:Nat):Int)-1=(i:Int)by omega];exact q1) hp;have hps:partsS into i (l[i] :: l.drop (i+1)) cur=partsS into (i+1) (l.drop (i+1)) (cur++[l[i]]):=by
     rw[partsS,if_pos (q1.trans hprev.symm)]
    rw[hps];refine⟨?_,f2,hlt2,.inl ⟨q1,f3⟩⟩;rw[encG,if_pos hlt2];rw[if_neg (by omega),if_pos (q1.trans hprev.symm),a1,Option.bind_some];exact f1
   ·rw[if_neg hq]at hp
    by_cases hs:n+1<s
    ·rw[if_pos hs]at hp;obtain⟨q1,q2⟩:=Qyu (by have:=Qyt e s _ _ _ _ _ (congrArg Prod.snd hp);rw[hp]at this;exact this) hlt2;obtain⟨o,e1,e2,t,e3⟩:=Qyr hG hB (by omega) hne2 hr;have hv:=sealB_val e1 (hsize hB);have hhd:=Qum e s (n+1);have hfit:Quv e ((freshB e s (n+1)).2.1.length:Int) ((freshB e s (n+1)).2.2.length:Int) (fsz l[i])=true:=Qvd hG (by omega) (by omega) hft;obtain⟨a1,a2,a3,a4⟩:=Qyo hG (Qym e s (n+1) i) (by omega) hcr hwr hft hfit;have hpb:putB e s (n+1) (freshB e s (n+1)) l[i]=partB e s (n+1) [l[i]]:=rfl;rw[hpb]at a1 a2 a3;have hlB:((partB e s (n+1) [l[i]]).2.1.length:Int)=Quk e s (n+1)+fsz l[i]:=by rw[← hpb];exact hlen _
     have hlT:((partB e s (n+1) [l[i]]).2.2.length:Int)=1:=by rw[← hpb];simp[putB,freshB]
     rw[← q2,← hlB,← hlT]at hp;have hlim:=Qyv hG h1;have hoo:(out++o).length=(n+1).toNat*(szN e).toNat:=by
      rw[List.length_append,ho,e2,show(n+1).toNat=n.toNat+1 by omega,Nat.add_mul,Nat.one_mul]
     obtain⟨f1,f2,f3⟩:=ihd (i+1) (out++o) (n+1) [l[i]] (by omega) (by omega) a2 (by simp) a3 (by omega) hs hoo (by rw[show((i+1:Nat):Int)-1=(i:Int)by omega];exact q1) hp;have hps:partsS into i (l[i] :: l.drop (i+1)) cur=cur :: partsS into (i+1) (l.drop (i+1)) [l[i]]:=by
      rw[partsS,if_neg (by rw[q1,hprev];omega)]
     rw[hps];refine⟨?_,⟨⟨h0,h1,okB_more hB (by omega),hne,hr⟩,f2⟩,hlt2,.inr ⟨q1,f3⟩⟩;rw[encG,if_pos hlt2];rw[if_neg (by omega),if_neg (by rw[q1,hprev];omega),e1,Option.bind_some,if_pos (by omega),q1,Qyl hG (n+1) (by omega) hs,Option.bind_some,a1,Option.bind_some];rw[f1,hv];obtain⟨g2,t2,hgt⟩:=partsS_ne into (l.drop (i+1)) (i+1) [l[i]];rw[hgt];show _=some (out++(segB e s n cur true++imgP e s (n+1) (g2 :: t2)));rw[List.append_assoc];rfl
    ·rw[if_neg hs]at hp;cases hp
def partsOf(into:List Int):List Rec→List (List Rec)
 | []=>[]
 | r :: rs=>partsS into 1 rs [r]
theorem partsOf_flat(into:List Int)(l:List Rec):(partsOf into l).flatten=l:=by
 cases l with
 | nil=>rfl
 | cons r rs=>unfold partsOf;rw[partsS_flat];rfl
theorem enc_parts{e s:Int}(hG:Good e s)(l:List Rec)(into:List Int)(hl:l.length≤1000000)(hw:Wf l)(hc:chkL l=0)(hil:into.length=l.length)
  (hp:Qvc e s (l.map fsz) [] 0 (Quk e s 0) 0=(into,0)) :
  encG e s into 0 l [] none=some (imgP e s 0 (partsOf into l))∧AllG e s 0 (partsOf into l)∧(l≠[]→rd into 0=0∧StepsI into (l.length-1) 1 0):=by
 have hs0:=hG.2.2.1
 cases l with
 | nil=>exact⟨rfl,trivial,fun h=>absurd rfl h⟩
 | cons r t =>
  have hlt2:0<into.length:=by rw[hil];simp
  have hcr:chkR r=0:=Qvh hc _ (by simp);have hwr:=hw r (by simp);have hx:=Qvq r hcr;have hlen:∀q:List Int,((q++Qvn r).length:Int)=(q.length:Int)+fsz r:=fun q=>by rw[List.length_append];unfold fsz;omega
  rw[List.map_cons]at hp;unfold Qvc at hp
  by_cases hf:Quv e (Quk e s (s-1)) 0 (fsz r)=false
  ·rw[if_pos hf]at hp;cases hp
  ·rw[if_neg hf]at hp;have hft:Quv e (Quk e s (s-1)) 0 (fsz r)=true:=by simpa using hf
   have hfit0:=Qvd hG (n:=0) (by omega) (by omega) hft;rw[if_pos hfit0]at hp;obtain⟨q1,q2⟩:=Qyu (i:=0) (x:=0) (by have:=Qyt e s _ _ _ _ _ (congrArg Prod.snd hp);rw[hp]at this;exact this) hlt2;have a:rd into 0=0:=q1;have hhd:=Qum e s 0;obtain⟨a1,a2,a3,a4⟩:=Qyo hG (Qym e s 0 0) (by omega) hcr hwr hft hfit0;have hpb:putB e s 0 (freshB e s 0) r=partB e s 0 [r]:=rfl;rw[hpb]at a1 a2 a3;have hlB:((partB e s 0 [r]).2.1.length:Int)=Quk e s 0+fsz r:=by rw[← hpb];exact hlen _
   have hlT:((partB e s 0 [r]).2.2.length:Int)=1:=by rw[← hpb];simp[putB,freshB]
   have hp':Qvc e s (((r :: t).drop 1).map fsz) (into.take 1) 0 ((partB e s 0 [r]).2.1.length:Int) ((partB e s 0 [r]).2.2.length:Int)=(into,0):=by
    rw[hlB,hlT,q2];exact hp
   obtain⟨f1,f2,f3⟩:=enc_img hG (r :: t) into hl hw hc hil t.length 1 [] 0 [r] qq_27 (by omega) a2 (by simp) a3 (by omega) (by omega) (by simp) a hp';refine⟨?_,f2,fun _=>⟨a,by simpa using f3⟩⟩;rw[encG,if_pos hlt2];rw[if_pos rfl,q1,Qyl hG 0 (by omega) (by omega),Option.bind_some,a1,Option.bind_some];exact f1
theorem encode_img(e s:Int)(l:List Rec)(k:Nat)(hl:l.length≤1000000)(hw:Wf l)(hk:2*l.length+10≤k)(h:(Qvv e s l).2.2=0) :
  Good e s∧chkL l=0∧(Qvs e s l).1.length=l.length∧Qbm.f k e s l=some (imgP e s 0 (partsOf (Qvs e s l).1 l),0)∧AllG e s 0 (partsOf (Qvs e s l).1 l)∧(l≠[]→rd (Qvs e s l).1 0=0∧StepsI (Qvs e s l).1 (l.length-1) 1 0):=by
 obtain⟨hg,hr,h2,h3,h4,h5⟩:=Qvz h hl;have hp:=enc_parts hg l (Qvs e s l).1 hl hw (Qvw hr) h4 (by
  have:Qvc e s (l.map fsz) [] 0 (Quk e s 0) 0=Qvs e s l:=rfl;rw[this,← h2])
 refine⟨hg,Qvw hr,h4,?_,hp.2.1,hp.2.2⟩;unfold Qbm.f;rw[Qvx e s l k hl hw hk,Option.bind_some,if_pos h,if_pos (by omega),h3,hp.1,Option.bind_some]
theorem tail_fit{e s n:Int}(hG:Good e s){g:List Rec}(h:GoodG e s n g)(b:Bool):((Qyz (partB e s n g) b).length:Int)≤szN e:=by
 obtain⟨h0,h1,h2,h3,h4⟩:=h;have hfl:=Qyf (Qnw (partB e s n g)) (Qmu (partB e s n g).2.2);rw[Qmv]at hfl;have hmm:=Quu ((partB e s n g).2.2.length:Int) (by omega) (by have:=h2.2.1;omega);unfold Qyz;rw[List.length_append]
 cases b with
 | true=>rw[if_pos rfl];omega
 | false=>rw[if_neg (by simp)];simp;omega
theorem seg_len{e s n:Int}(hG:Good e s){g:List Rec}(h:GoodG e s n g)(b:Bool):(segB e s n g b).length=(szN e).toNat:=by
 have h1:=tail_fit hG h b;unfold segB;rw[List.length_append,List.length_replicate];omega
theorem img_len{e s:Int}(hG:Good e s):∀(ps:List (List Rec)) (n:Int),AllG e s n ps→(imgP e s n ps).length=ps.length*(szN e).toNat
 | [],n,_=>by simp[imgP]
 | [g],n,h=>by simp[imgP,seg_len hG h.1]
 | g :: g2 :: t,n,h=>by
  have ih:=img_len hG (g2 :: t) (n+1) h.2;unfold imgP;rw[List.length_append,ih,seg_len hG h.1 true,List.length_cons (a:=g),Nat.add_mul,Nat.one_mul];omega
theorem part_frames(e s n:Int)(g:List Rec):(partB e s n g).2.1=Qlf e s n++g.flatMap Qvn:=fillB_frames e s n g _
theorem seg_tail(e s n:Int)(g:List Rec)(b:Bool):∃T,Qwv T∧segB e s n g b=Qlf e s n++(g.flatMap Qvn++T):=by
 unfold segB Qyz;rw[part_frames]
 cases b with
 | true =>
  rw[if_pos rfl];generalize (szN e).toNat-(Qlf e s n++g.flatMap Qvn++Qnp (Qnw (partB e s n g)) (Qmu (partB e s n g).2.2)).length=m;exact⟨Qnp (Qnw (partB e s n g)) (Qmu (partB e s n g).2.2)++List.replicate m 255,Qxa _ _ _,by simp only[List.append_assoc]⟩
 | false =>
  rw[if_neg (by simp),List.append_nil];generalize (szN e).toNat-(Qlf e s n++g.flatMap Qvn).length=m;exact⟨List.replicate m 255,Qwx _,by simp only[List.append_assoc]⟩
theorem seg_inj{e s n:Int}{g g':List Rec}{b b':Bool}(h:∀r∈g,okR r)(h':∀r∈g',okR r)(he:segB e s n g b=segB e s n g' b'):g=g':=by
 obtain⟨T,hT,e1⟩:=seg_tail e s n g b;obtain⟨T',hT',e2⟩:=seg_tail e s n g' b';rw[e1,e2]at he;exact(Qww h h' hT hT' (List.append_cancel_left he)).1
theorem seal_bytes{b:List Int}(hb:Bytes b):Bytes (Qla b):=by
 unfold Qla;refine(Qwe _ _ (Nat.le_refl _) (hb.app (Qwk 8 _))).2.1.app ?_;intro y hy
 rcases List.mem_singleton.1 hy with rfl
 omega
theorem foot_bytes(u:Int)(l:List Ent):Bytes (Qnp u l):=by
 unfold Qnp;refine seal_bytes (Bytes.app (Bytes.app (Bytes.app (Bytes.app ?_ (Qwk 4 _)) (Qwk 4 _)) (Qwz _ Qwy l)) (Qwz _ (fun x=>Qwk 8 x) _));intro y hy
 rcases List.mem_singleton.1 hy with rfl
 omega
theorem head_bytes{e s n:Int}(he:0≤e∧e<256)(hs:0≤s∧s<4294967296)(hn:0≤n∧n<4294967296):Bytes (Qlf e s n):=by
 unfold Qlf;refine seal_bytes (Bytes.app (Bytes.app ?_ (Qwp s hs.1 (by omega))) (Qwp n hn.1 (by omega)));intro y hy;simp only[List.mem_cons,List.not_mem_nil,or_false]at hy;omega
theorem frames_bytes:∀ {g:List Rec},(∀r∈g,okR r)→Bytes (g.flatMap Qvn)
 | [],_=>fun y hy=>by cases hy
 | r :: g,h=>by
  rw[List.flatMap_cons];exact(seal_bytes (Qwt (h r (List.mem_cons_self ..)))).app (frames_bytes (fun x hx=>h x (List.mem_cons_of_mem _ hx)))
theorem rep_bytes(m:Nat):Bytes (List.replicate m 255):=fun x hx=>by have:=List.eq_of_mem_replicate hx;omega
theorem seg_bytes{e s n:Int}(hG:Good e s){g:List Rec}(h:GoodG e s n g)(hr:∀r∈g,okR r)(b:Bool):Bytes (segB e s n g b):=by
 obtain⟨g1,g2,g3,g4⟩:=hG;obtain⟨h0,h1,_⟩:=h;unfold segB Qyz;rw[part_frames];refine Bytes.app (Bytes.app ((head_bytes (by omega) (by omega) (by omega)).app (frames_bytes hr)) ?_) (rep_bytes _);split
 ·exact foot_bytes _ _
 ·intro y hy;cases hy
theorem img_bytes{e s:Int}(hG:Good e s):∀(ps:List (List Rec)) (n:Int),AllG e s n ps→(∀g∈ps,∀r∈g,okR r)→Bytes (imgP e s n ps)
 | [],n,_,_=>fun y hy=>by cases hy
 | [g],n,h,hr=>seg_bytes hG h.1 (hr g (by simp)) false
 | g :: g2 :: t,n,h,hr=>(seg_bytes hG h.1 (hr g (by simp)) true).app (img_bytes hG (g2 :: t) (n+1) h.2 (fun x hx=>hr x (List.mem_cons_of_mem _ hx)))
end Go.Proofs.YtepkfjmjidjedaaGreat.CodecP
end
