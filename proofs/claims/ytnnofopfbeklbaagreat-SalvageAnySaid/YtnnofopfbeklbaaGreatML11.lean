/- Merged texts. -/
import Derived.Test.YtnnofopfbeklbaaGreatML10
import Derived.Test.YtnnofopfbeklbaaGreatML06
import Derived.Test.YtnnofopfbeklbaaGreatML09
import Derived.Test.YtnnofopfbeklbaaGreatML07
import Derived.Test.YtnnofopfbeklbaaGreatML08
import Derived.Test.YtnnofopfbeklbaaGreatML01
import Derived.Test.YtnnofopfbeklbaaGreatML03
set_option linter.unusedVariables false
set_option linter.unusedSimpArgs false
set_option maxHeartbeats 8000000
set_option maxRecDepth 100000
section
namespace Go.Proofs.YtnnofopfbeklbaaGreat.CodecP
open Go.RowKit Go.Proofs.YtnnofopfbeklbaaGreat.C Go.Proofs.YtnnofopfbeklbaaGreatW.PrintWords Go.Proofs.YtnnofopfbeklbaaGreatW.PrintLast Go.Proofs.YtnnofopfbeklbaaGreatW.PrintMore
theorem Qun(j:Nat)(x b:Int)(hj:j≤9)(d:0≤x)(hx:x<128^j)(hb0:0≤b)(hb:b<256)(h9:j=9→b≤1) :
  Go.bits .or .u64 x (shl .u64 (IntKind.u64.wrap (Go.bits .andNot .u8 b 128)) (7*(j:Int)))=x+128^j*(b%128):=by
 have e0:Go.bits .andNot .u8 b 128=b%128:=by
  have h:∀n:Fin 256,Go.bits .andNot .u8 ((n.val:Nat):Int) 128=((n.val:Nat):Int)%128:=by decide +kernel
  obtain⟨n,rfl⟩:=Int.eq_ofNat_of_zero_le hb0;exact h ⟨n,by omega⟩
 have hc:b%128<128∧0≤b%128∧(j=9→b%128≤1):=⟨by omega,by omega,fun h=>by have:=h9 h;omega⟩;rw[e0,IntWalk.u64_in _ (by omega)];generalize b%128=c at hc ⊢;obtain⟨hc1,hc0,hc9⟩:=hc;obtain⟨a,rfl⟩:=Int.eq_ofNat_of_zero_le d;obtain⟨c,rfl⟩:=Int.eq_ofNat_of_zero_le hc0;have hp:(128:Nat)^j=2^(7*j):=by rw[Nat.pow_mul]
 have ha:a<2^(7*j):=by
  rw[← hp]
  exact_mod_cast hx
 have hbig:c*2^(7*j)<2^64:=by
  by_cases h:j=9
  ·subst h;have:=hc9 rfl;have e:(2:Nat)^(7*9)=9223372036854775808:=by decide
   rw[e];omega
  ·have h1:c*2^(7*j)<2^7*2^(7*j):=Nat.mul_lt_mul_of_pos_right (by omega) (Nat.two_pow_pos _);have h2:(2:Nat)^7*2^(7*j)≤2^64:=by rw[← Nat.pow_add];exact Nat.pow_le_pow_right (by omega) (by omega)
   omega
 have ha2:a<2^64:=by
  have h2:(2:Nat)^(7*j)≤2^64:=Nat.pow_le_pow_right (by omega) (by omega);omega
 rw[show(7*(j:Int))=((7*j:Nat):Int)by push_cast;rfl];unfold shl;rw[show min ((7*j:Nat):Int).toNat IntKind.u64.bits=7*j by simp[IntKind.bits];omega,IntKind.wrap_u64];have e1:((c:Int)*2^(7*j))%18446744073709551616=((2^(7*j)*c:Nat):Int):=by
  have e2:((c:Int)*2^(7*j))=((c*2^(7*j):Nat):Int):=by push_cast;rfl
  rw[e2,Nat.mul_comm (2^(7*j)) c];omega
 rw[e1,bits_or_u64_nat _ _ (by omega) (by rw[Nat.mul_comm];omega),Nat.or_comm,← Nat.two_pow_add_eq_or_of_lt ha];have e3:((128:Int)^j*(c:Int))=((128^j*c:Nat):Int):=by push_cast;rfl
 rw[e3,hp];omega
theorem Quo{bs:List Int}{i:Nat}(h:i<bs.length):bs.drop i=rd bs (i:Int) :: bs.drop (i+1):=by rw[rd_get h];exact List.drop_eq_getElem_cons h
theorem Qup{bs:List Int}{i:Nat}{c:Int}{t:List Int}(h:bs.drop i=c :: t):i<bs.length∧rd bs (i:Int)=c∧bs.drop (i+1)=t:=by
 have hi:i<bs.length:=by
  rcases Nat.lt_or_ge i bs.length with h1|h1
  ·exact h1
  ·rw[List.drop_eq_nil_of_le h1]at h;cases h
 rw[Quo hi]at h
 cases h
 exact⟨hi,rfl,rfl⟩
theorem p128(j:Nat)(h:j≤8):(128:Int)^j≤72057594037927936:=by
 have k:∀j:Fin 9,(128:Int)^j.val≤72057594037927936:=by decide +kernel
 exact k ⟨j,by omega⟩
theorem Quq(j:Nat):0<(128:Int)^j:=Int.pow_pos (by decide)
theorem Qur(bs:List Int)(hb:Bytes bs):∀(n j i:Nat) (x r i1:Int),n+j=9→0≤x→x<128^j→Qqi bs (n+1) (j:Int) (i:Int) x=.ok (r,i1) →
  ∃y:Int,0≤y∧(0<j→y≠0)∧r=x+128^j*y∧r<18446744073709551616∧i1=((i+(vput n y).length:Nat):Int)∧bs.drop i=vput n y++bs.drop (i+(vput n y).length)
 | n, j,i,x,r,i1,hnj,hx0,hx1,h=>by
  have hpos:=Quq j;unfold Qqi at h
  by_cases hi:(i:Int)<(bs.length:Int)
  ·rw [if_pos hi]at h;have hd:=rd_range hb (show i<bs.length by omega);have hdrop:=Quo (show i<bs.length by omega)
   by_cases c1:(j:Int)=9∧1<rd bs (i:Int)
   ·rw[if_pos c1]at h;cases h
   ·rw [if_neg c1]at h;have h9:j=9→rd bs (i:Int)≤1:=fun hj=>by omega
    rw[Qun j x (rd bs (i:Int)) (by omega) hx0 hx1 hd.1 hd.2 h9]at h;generalize rd bs (i:Int)=b at *;have hm:(128:Int)^j*(b%128)≤128^j*127:=Int.mul_le_mul_of_nonneg_left (by omega) (by omega);have hm0:0≤(128:Int)^j*(b%128):=Int.mul_nonneg (by omega) (by omega)
    by_cases c2:128≤b
    ·rw[if_pos c2]at h
     cases n with
     | zero=>have:=h9 (by omega);omega
     | succ n =>
      have h':Qqi bs (n+1) ((j+1:Nat):Int) ((i+1:Nat):Int) (x+128^j*(b%128))=.ok (r,i1):=by push_cast;exact h
      have hp:(128:Int)^(j+1)=128^j*128:=Int.pow_succ ..;obtain⟨y,a,hyn,hr,hr1,hi1,hdr⟩:=Qur bs hb n (j+1) (i+1) _ r i1 (by omega) (by omega) (by rw[hp];omega) h';have hy:=hyn (by omega);have hv:vput (n+1) (b%128+128*y)=b :: vput n y:=by
       rw[vput,if_neg (by omega),show(b%128+128*y)%128+128=b by omega,show(b%128+128*y)/128=y by omega]
      refine⟨b%128+128*y,by omega,fun _=>by omega,?_,hr1,?_,?_⟩
      ·rw[hr,hp,Int.mul_add,← Int.mul_assoc];omega
      ·rw[hv,hi1,List.length_cons];congr 1;omega
      ·rw[hv,hdrop,hdr,List.length_cons,List.cons_append,show i+1+(vput n y).length=i+((vput n y).length+1)by omega]
    ·rw[if_neg c2]at h
     by_cases c3:b=0∧(0:Int)<(j:Int)
     ·rw[if_pos c3]at h;cases h
     ·rw[if_neg c3]at h
      cases h
      have e:b%128=b:=by omega
      have hv:vput n b=[b]:=by
       cases n with
       | zero=>rfl
       | succ n=>rw[vput,if_pos (by omega)]
      refine⟨b,hd.1,fun hj hb0=>c3 ⟨hb0,by omega⟩,by rw[e],?_,by rw[hv];rfl,by rw[hv,hdrop];rfl⟩
      by_cases hj:j=9
      ·subst hj;have:=h9 rfl;have e9:(128:Int)^9=9223372036854775808:=by decide
       rw[e,e9];rw[e9]at hx1;omega
      ·have:=p128 j (by omega);omega
  ·rw[if_neg hi]at h;cases h
theorem Qus(bs:List Int)(hb:Bytes bs):∀(n j i:Nat) (x y:Int) (t:List Int),n+j=9→0≤x→x<128^j→0≤y→(0<j→y≠0)→x+128^j*y<18446744073709551616→bs.drop i=vput n y++t →
  Qqi bs (n+1) (j:Int) (i:Int) x=.ok (x+128^j*y,((i+(vput n y).length:Nat):Int))
 | n,j,i,x,y,t,hnj,hx0,hx1,hy0,hyn,hlt,h=>by
  have hpos:=Quq j;have h9:j=9→y≤1:=fun hj=>by
   subst hj;have e9:(128:Int)^9=9223372036854775808:=by decide
   rw[e9]at hlt;omega
  by_cases hs:y<128
  ·have hv:vput n y=[y]:=by
    cases n with
    | zero=>rfl
    | succ n=>rw[vput,if_pos hs]
   rw[hv]at h ⊢;obtain⟨hi,hr,_⟩:=Qup h;unfold Qqi;rw[if_pos (by omega),hr,if_neg (fun c=>by have:=h9 (by omega);omega),if_neg (by omega),if_neg (fun c=>hyn (by omega) c.1),Qun j x y (by omega) hx0 hx1 hy0 (by omega) h9,show y%128=y by omega];rfl
  ·cases n with
   | zero=>have:=h9 (by omega);omega
   | succ n =>
    have hv:vput (n+1) y=(y%128+128) :: vput n (y/128):=by rw[vput,if_neg hs]
    rw[hv]at h ⊢;obtain⟨hi,hr,ht⟩:=Qup h;have hp:(128:Int)^(j+1)=128^j*128:=Int.pow_succ ..;have hm:(128:Int)^j*(y%128)≤128^j*127:=Int.mul_le_mul_of_nonneg_left (by omega) (by omega);have hm0:0≤(128:Int)^j*(y%128):=Int.mul_nonneg (by omega) (by omega);have hsplit:x+128^j*(y%128)+128^(j+1)*(y/128)=x+128^j*y:=by
     have e:y=y%128+128*(y/128):=by omega
     have e2:(128:Int)^j*y=128^j*(y%128)+128^j*(128*(y/128)):=by rw[← Int.mul_add,← e]
     rw[e2,hp,Int.mul_assoc];omega
    have ih:=Qus bs hb n (j+1) (i+1) (x+128^j*(y%128)) (y/128) t (by omega) (by omega) (by rw[hp];omega) (by omega) (fun _=>by omega) (by rw[hsplit];exact hlt) ht;unfold Qqi;rw[if_pos (by omega),hr,if_neg (fun c=>by omega),if_pos (by omega),Qun j x (y%128+128) (by omega) hx0 hx1 (by omega) (by omega) (fun hj=>by omega),show(y%128+128)%128=y%128 by omega];rw[hsplit]at ih
    push_cast at ih
    rw[ih,List.length_cons]
    congr 2
    push_cast
    omega
theorem Qut{bs:List Int}(hb:Bytes bs){i:Nat}{n i1:Int}(h:Qqi bs 10 0 (i:Int) 0=.ok (n,i1)):∃m:Nat,i1=(m:Int)∧0≤n∧n<18446744073709551616∧bs.drop i=vput 9 n++bs.drop m∧m=i+(vput 9 n).length:=by
 obtain⟨y,h0,_,h2,h3,h4,h5⟩:=Qur bs hb 9 0 i 0 n i1 rfl (Int.le_refl _) (by decide) h;obtain rfl:n=y:=by rw[h2];simp
 exact⟨_,h4,h0,h3,h5,rfl⟩
theorem Quu{bs:List Int}(hb:Bytes bs){i:Nat}{n:Int}{t:List Int}(h0:0≤n)(h1:n<18446744073709551616)(h:bs.drop i=vput 9 n++t):Qqi bs 10 0 (i:Int) 0=.ok (n,((i+(vput 9 n).length:Nat):Int)):=by
 have:=Qus bs hb 9 0 i 0 n t rfl (Int.le_refl _) (by decide) h0 (fun h=>by omega) (by simpa using h1) h
 simpa using this
theorem Quv{bs:List Int}(hb:Bytes bs){i:Nat}{least most i2:Int}{xs:List Int}(hl:0≤least)(h:Qql bs least most (i:Int)=.ok (xs,i2)) :
  ∃m:Nat,i2=(m:Int)∧least≤(xs.length:Int)∧(xs.length:Int)≤most∧bs.drop i=vput 9 (xs.length:Int)++(xs++bs.drop m)∧Bytes xs:=by
 unfold Qql at h
 cases hv:Qqi bs 10 0 (i:Int) 0 with
 | error p=>rw[hv]at h;cases h
 | ok p =>
  obtain⟨n,i1⟩:=p;obtain⟨m,rfl,h0,h1,hd,hm⟩:=Qut hb hv;rw[hv]at h;dsimp only at h;split at h
  ·cases h
  ·rename_i c1;split at h
   ·cases h
   ·rename_i c2;split at h
    ·rename_i c3
     cases h
     have hlen:((bs.drop ((m:Int)).toNat).take n.toNat).length=n.toNat:=by rw[List.length_take,List.length_drop];omega
     refine⟨m+n.toNat,by omega,by rw[hlen];omega,by rw[hlen];omega,?_,(hb.drop _).take _⟩;rw[hlen,hd,show((n.toNat:Nat):Int)=n by omega,Int.toNat_natCast,← List.drop_drop,List.take_append_drop]
    ·cases h
theorem Quw:∀(n:Nat) (x:Int),0<(vput n x).length
 | 0,_=>by simp[vput]
 | n+1,x=>by
  unfold vput;split<;>simp
theorem Qux{bs:List Int}(hb:Bytes bs){i:Nat}{least most:Int}{xs t:List Int}(h0:least≤(xs.length:Int))(h1:(xs.length:Int)≤most)(hm:most<18446744073709551616)(h:bs.drop i=vput 9 (xs.length:Int)++(xs++t)) :
  Qql bs least most (i:Int)=.ok (xs,((i+(vput 9 (xs.length:Int)).length+xs.length:Nat):Int)):=by
 have hv:=Quu hb (Int.natCast_nonneg _) (by omega) h;have hd:bs.drop (i+(vput 9 (xs.length:Int)).length)=xs++t:=by rw[← List.drop_drop,h,List.drop_left]
 have hlen:i+(vput 9 (xs.length:Int)).length+xs.length≤bs.length∨xs=[]:=by
  have:=congrArg List.length hd;rw[List.length_drop,List.length_append]at this
  rcases xs with _ |⟨x,xs⟩
  ·exact Or.inr rfl
  ·exact Or.inl (by simp only[List.length_cons]at this ⊢;omega)
 have hle:i+(vput 9 (xs.length:Int)).length≤bs.length:=by
  have:=congrArg List.length h;rw[List.length_drop,List.length_append]at this;have hne:=Quw 9 (xs.length:Int);omega
 unfold Qql;rw[hv];dsimp only;have hle2:i+(vput 9 (xs.length:Int)).length+xs.length≤bs.length:=by
  rcases hlen with h|h
  ·exact h
  ·rw[h]at hle ⊢;simpa using hle
 rw[if_neg (by omega),if_neg (by omega),if_pos (by push_cast;omega),Int.toNat_natCast,Int.toNat_natCast,hd,List.take_left]
 congr 1
theorem Quy {bs:List Int} (hb:Bytes bs) {d:Bool} {q i:Int} {a b:ByteArray} (h:recL bs=.ok ((d,q,a,b),i)):bs=Qnv d q a b∧chk d a b=0∧0≤q∧q<18446744073709551616:=by
 unfold recL at h
 by_cases h0:(0:Int)<(bs.length:Int)
 ·rw [if_pos h0]at h;have hdrop:bs=rd bs 0 :: bs.drop 1:=Quo (i:=0) (by omega);have hnum:∀ {xs:List Int},Bytes xs→(strOfNums xs).size=xs.length:=fun hx=>by rw[Qnb,bytesOf_nums hx]
  generalize hr:rd bs 0=k at *
  by_cases hk:k≠2∧k≠3
  ·rw[if_pos hk]at h;cases h
  ·rw [if_neg hk]at h
   cases hv:Qqi bs 10 0 (0+1) 0 with
   | error p=>rw[hv]at h;cases h
   | ok p =>
    obtain⟨q',i2⟩:=p;obtain⟨m2,rfl,hq0,hq1,hd2,_⟩:=Qut (i:=1) hb hv;rw[hv]at h;dsimp only at h
    cases ht:Qql bs 1 4096 (m2:Int)with
    | error p=>rw[ht]at h;cases h
    | ok p =>
     obtain⟨xs,i3⟩:=p;obtain⟨m3,rfl,c,g,hd3,hbx⟩:=Quv hb (by decide) ht;rw[ht]at h;dsimp only at h;have hsx:=hnum hbx;have hkey:¬(strOfNums xs).toList=([]:List UInt8):=fun e=>by
      have:=(size_nil_iff _).1 e;omega
     by_cases hk3:k=3
     ·rw[if_pos hk3]at h
      by_cases hend:(0:Int)<(bs.length:Int)-(m3:Int)
      ·rw[if_pos hend]at h;cases h
      ·rw[if_neg hend]at h
       cases h
       refine⟨?_,?_,hq0,hq1⟩
       ·unfold Qnv;rw[if_pos rfl,if_pos rfl,hsx,bytesOf_nums hbx]
        conv=>lhs;rw[hdrop,hd2,hd3,List.drop_eq_nil_of_le (show bs.length≤m3 by omega),hk3]
        simp
       ·unfold chk;rw[if_neg hkey,if_neg (by rw[hsx];omega),(size_nil_iff (⟨#[]⟩:ByteArray)).2 rfl,if_neg (by decide),if_neg (by decide)]
     ·rw [if_neg hk3]at h;obtain rfl:k=2:=by omega
      cases hu:Qql bs 0 1048576 (m3:Int)with
      | error p=>rw[hu]at h;cases h
      | ok p =>
       obtain⟨ys,i4⟩:=p;obtain⟨m4,rfl,j,l,hd4,hby⟩:=Quv hb (by decide) hu;rw[hu]at h;dsimp only at h;have hsy:=hnum hby
       by_cases hend:(0:Int)<(bs.length:Int)-(m4:Int)
       ·rw[if_pos hend]at h;cases h
       ·rw[if_neg hend]at h
        cases h
        refine⟨?_,?_,hq0,hq1⟩
        ·unfold Qnv;rw[if_neg (by decide),if_neg (by decide),hsx,hsy,bytesOf_nums hbx,bytesOf_nums hby]
         conv=>lhs;rw[hdrop,hd2,hd3,hd4,List.drop_eq_nil_of_le (show bs.length≤m4 by omega)]
         simp
        ·unfold chk;rw[if_neg hkey,if_neg (by rw[hsx];omega),if_neg (by simp),if_neg (by rw[hsy];omega)]
 ·rw[if_neg h0]at h;cases h
theorem Quz{d:Bool}{q:Int}{a b:ByteArray}(h0:0≤q)(h1:q<18446744073709551616)(hc:chk d a b=0):∃i,recL (Qnv d q a b)=.ok ((d,q,a,b),i):=by
 have hca:(0:Int)<a.size∧(a.size:Int)≤4096∧(b.size:Int)≤1048576:=by
  unfold chk at hc;split at hc
  ·cases hc
  ·rename_i c1;rw[size_nil_iff]at c1;split at hc
   ·cases hc
   ·split at hc
    ·cases hc
    ·split at hc
     ·cases hc
     ·omega
 have hb:Bytes (Qnv d q a b):=Quk d q a b h0 h1 (by omega) (by omega);have hle:(Qnv d q a b)≠[]:=by unfold Qnv;simp
 have hpos:(0:Int)<((Qnv d q a b).length:Int):=by
  have:=List.length_pos_iff.2 hle;omega
 generalize hB:Qnv d q a b=bs at *;have hbody:=hB;unfold Qnv at hbody;have hd0:bs.drop 0=(if d then(3:Int)else 2) :: (vput 9 q++((vput 9 a.size++bytesOf a)++(if d then []else vput 9 b.size++bytesOf b))):=by
  rw[List.drop_zero,← hbody];simp
 obtain⟨_,hr,hd1⟩:=Qup hd0;have hv:=Quu hb h0 h1 hd1;have hd2:bs.drop (1+(vput 9 q).length)=vput 9 (((bytesOf a).length:Nat):Int)++(bytesOf a++(if d then []else vput 9 b.size++bytesOf b)):=by
  rw[← List.drop_drop,hd1,List.drop_left,Qnb,List.append_assoc]
 have hla:((bytesOf a).length:Int)=a.size:=by rw[Qnb]
 have hlb:((bytesOf b).length:Int)=b.size:=by rw[Qnb]
 have ht:=Qux hb (least:=1) (most:=4096) (by omega) (by omega) (by decide) hd2;have hd3:bs.drop (1+(vput 9 q).length+(vput 9 (((bytesOf a).length:Nat):Int)).length+(bytesOf a).length)=(if d then []else vput 9 b.size++bytesOf b):=by
  rw[← List.drop_drop,← List.drop_drop,hd2,List.drop_left,List.drop_left]
 generalize 1+(vput 9 q).length=m2 at *;generalize m2+(vput 9 (((bytesOf a).length:Nat):Int)).length+(bytesOf a).length=m3 at *;have hv':Qqi bs 10 0 (0+1) 0=.ok (q,(m2:Int)):=by simpa using hv
 cases d with
 | true =>
  have hr':rd bs 0=3:=hr;have hd3':bs.drop m3=[]:=hd3;have hlen:=congrArg List.length hd3';rw[List.length_drop,List.length_nil]at hlen;obtain rfl:b=ByteArray.empty:=Qul hc;unfold recL;rw[if_pos hpos,hr',if_neg (by decide),hv'];dsimp only;rw[ht];dsimp only;rw[Qok,if_pos rfl,if_neg (by omega)];exact⟨_,rfl⟩
 | false =>
  have hr':rd bs 0=2:=hr;have hd3':bs.drop m3=vput 9 (((bytesOf b).length:Nat):Int)++(bytesOf b++[]):=by rw[hd3,hlb];simp
  have hu:=Qux hb (least:=0) (most:=1048576) (by omega) (by omega) (by decide) hd3';have hlen:=congrArg List.length hd3';rw[List.length_drop,List.length_append,List.length_append,List.length_nil]at hlen;unfold recL;rw[if_pos hpos,hr',if_neg (by decide),hv'];dsimp only;rw[ht];dsimp only;rw[Qok,if_neg (by decide),hu];dsimp only;rw[Qok,if_neg (by push_cast;omega)];exact⟨_,rfl⟩
theorem Qvb:Bytes []:=fun x hx=>nomatch hx
def unsF:Nat→List Int→Option (List Int)
 | _,[]=>some []
 | 0,_ :: _=>none
 | k+1,c :: t=>if t.length+1<c.toNat then none else(unsF k (t.drop (c.toNat-1))).map (fun d=>t.take (c.toNat-1)++(if c<255∧t.drop (c.toNat-1)≠[]then 0 :: d else d))
theorem Qvc(k:Nat):unsF k []=some []:=by cases k<;>rfl
theorem Qvd:∀(n:Nat) (b:List Int) (k:Nat),b.length≤n→Bytes b→(Qle b).length≤k→unsF k (Qle b)=some b
 | n,b,k,hn,hb,hk=>by
  rcases Quf hb with⟨a,r,rfl,hf,hl,e⟩ |⟨a,r,rfl,hf,hl,hr,e⟩ |⟨hf,hl,e⟩
  ·rw[List.length_append,List.length_cons]at hn;rw[e,List.length_cons,List.length_append]at hk
   match n,k,hn,hk with
   | n+1,k+1,hn,hk =>
    have ih:=Qvd n r k (by omega) hb.right.tail (by omega);have hs:=Qug _ r (Nat.le_refl _) hb.right.tail;have hc:((a.length:Int)+1).toNat-1=a.length:=by omega
    rw[e,unsF,hc,List.take_left' rfl,List.drop_left' rfl,if_neg (by rw[List.length_append];omega),ih,Option.map_some,if_pos ⟨by omega,hs.2.2⟩]
  ·rw[List.length_append]at hn;rw[e,List.length_cons,List.length_append]at hk
   match n,k,hn,hk with
   | 0,k,hn,hk=>omega
   | n+1,k+1,hn,hk =>
    have ih:=Qvd n r k (by omega) hb.right (by omega);have hc:(255:Int).toNat-1=a.length:=by omega
    rw[e,unsF,hc,List.take_left' rfl,List.drop_left' rfl,if_neg (by rw[List.length_append];omega),ih,Option.map_some,if_neg (fun h=>by omega)]
  ·rw[e,List.length_cons]at hk;obtain⟨k,rfl⟩:∃m,k=m+1:=⟨k-1,by omega⟩;have hc:((b.length:Int)+1).toNat-1=b.length:=by omega
   rw[e,unsF,hc,List.take_of_length_le (Nat.le_refl _),List.drop_of_length_le (Nat.le_refl _),if_neg (by omega),Qvc,Option.map_some,if_neg (fun h=>h.2 rfl),List.append_nil]
def unsR(acc rest c:List Int)(j:Nat):List Int × Int:=match unsF j rest with
 | none=>([],2)
 | some d=>if Qle (acc++d)=c then(acc++d,0)else([],4)
theorem Qve(c:List Int)(hc:Bytes c)(hcl:c.length≤1000000000):∀(j k:Nat) (acc rest:List Int),rest.length≤j→Bytes rest→Free rest→Bytes acc→acc.length+rest.length≤c.length→j+2≤k→Qam.l0 k c acc rest=some (unsR acc rest c j)
 | j,k+1,acc,[],hj,hb,hf,ha,hl,hk=>by
  have hs:=Qug _ acc (Nat.le_refl _) ha;unfold Qam.l0 unsR;rw[Qvc];dsimp only;rw[if_neg (by simp),List.append_nil];unfold Qal.f;rw[if_pos (by simp at hl;omega),Option.bind_some];unfold Qad.f;rw[Option.bind_some]
  by_cases he:Qle acc=c
  ·rw[if_pos he,if_pos (by rw[he];exact beq_self_eq_true _)]
  ·rw[if_neg he,if_neg (by
    intro h;exact he ((Qva hs.2.1 hc).1 (beq_iff_eq.1 h)))]
 | j + 1,k+1,acc,x :: t,hj,hb,hf,ha,hl,hk=>by
  have hx:=hb x (List.mem_cons_self ..);have b:=hf x (List.mem_cons_self ..);have hw:wrap64 x=x:=by unfold wrap64;omega
  have hrd:rd (x :: t) 0=x:=rfl;obtain⟨m,hm⟩:∃m:Nat,x=(m:Int)+1:=⟨x.toNat-1,by omega⟩;have hxt:x.toNat=m+1:=by omega
  unfold Qam.l0;rw[hrd,hw,if_pos (by simp only[List.length_cons];omega),if_pos (by simp only[List.length_cons];omega)]
  by_cases hsh:t.length<m
  ·rw[if_pos (by simp only[List.length_cons];omega)];unfold unsR;rw[unsF,hxt,if_pos (by omega)]
  ·have e1:((x :: t).take (m+1)).drop 1=t.take m:=by simp
   have e2:(x :: t).drop (m+1)=t.drop m:=by simp
   have hlt:(t.take m).length=m:=by rw[List.length_take];omega
   simp only[List.length_cons]at hj hl;have hba:Bytes (acc++t.take m):=ha.app (hb.tail.take m);have hbt:Bytes (t.drop m):=hb.tail.drop m;have hft:Free (t.drop m):=fun y hy=>hf y (List.mem_cons_of_mem _ (List.mem_of_mem_drop hy))
   have hdl:(t.drop m).length=t.length-m:=List.length_drop;rw[if_neg (by simp only[List.length_cons];omega),if_pos (by omega),if_pos (by simp only[List.length_cons];omega),hxt,e1,e2,Option.bind_some,hlt,if_pos (by omega),Option.bind_some,if_pos (by omega),Option.bind_some];have hu:∀(z:List Int) (hz:z=if x<255∧t.drop m≠[]then [0]else []),unsR acc (x :: t) c (j+1)=unsR (acc++t.take m++z) (t.drop m) c j:=by
    intro z hz;unfold unsR;rw[unsF,hxt,if_neg (by omega),Nat.add_sub_cancel]
    cases unsF j (t.drop m)with
    | none=>rfl
    | some d =>
     simp only[Option.map_some];have:acc++(t.take m++(if x<255∧t.drop m≠[]then 0 :: d else d))=acc++t.take m++z++d:=by
      rw[hz]
      by_cases h:x<255∧t.drop m≠[]
      ·rw[if_pos h,if_pos h];simp
      ·rw[if_neg h,if_neg h];simp
     rw[this]
   by_cases a:x≤254
   ·rw[if_pos a]
    by_cases hne:t.drop m=[]
    ·rw[if_neg (by rw[hne];simp),Qve c hc hcl j k _ _ (by omega) hbt hft hba (by rw[List.length_append,hlt,hdl];omega) (by omega),hu [] (by rw[if_neg (fun h=>h.2 hne)]),List.append_nil]
    ·have hpos:0<(t.drop m).length:=List.length_pos_iff.2 hne;rw[if_pos (by omega),if_pos (by rw[List.length_append,hlt];omega),Qve c hc hcl j k _ _ (by omega) hbt hft (hba.app (fun y hy=>by rw[List.mem_singleton.1 hy];omega)) (by rw[List.length_append,List.length_append,hlt,hdl,List.length_singleton];omega) (by omega),hu [0] (by rw[if_pos ⟨by omega,hne⟩])]
   ·rw[if_neg a,Qve c hc hcl j k _ _ (by omega) hbt hft hba (by rw[List.length_append,hlt,hdl];omega) (by omega),hu [] (by rw[if_neg (fun h=>by omega)]),List.append_nil]
theorem Qvf{c:List Int}(hc:Bytes c)(hf:Free c)(hcl:c.length≤1000000000)(k:Nat)(hk:c.length+5≤k):Qam.f k c=some (if c=[]then([],2)else unsR [] c c c.length):=by
 unfold Qam.f Qae.f;rw[Option.bind_some,Qom hc hf,if_neg (by decide)]
 by_cases h:c=[]
 ·rw[if_pos h,if_pos (by rw[h];rfl)]
 ·rw[if_neg h,if_neg (fun e=>h (List.length_eq_zero_iff.1 (by omega)))];exact Qve c hc hcl c.length k [] c (Nat.le_refl _) hc hf (fun x hx=>by cases hx) (by simp) (by omega)
theorem Qvg{c:List Int}{out:List Int}{e:Int}(h:unsR [] c c c.length=(out,e)):e=0→Qle out=c:=by
 intro he;unfold unsR at h
 cases hu:unsF c.length c with
 | none=>rw[hu]at h;cases h;cases he
 | some d =>
  rw[hu]at h;dsimp only at h
  by_cases hs:Qle ([]++d)=c
  ·rw[if_pos hs]at h
   cases h
   exact hs
  ·rw[if_neg hs]at h
   cases h
   cases he
theorem Qvh:∀(j:Nat) (rest d:List Int),Bytes rest→unsF j rest=some d→Bytes d∧d.length≤rest.length
 | j,[],d,hb,h=>by rw[Qvc]at h;cases h;exact⟨Qvb,Nat.le_refl _⟩
 | 0,_ :: _,d,hb,h=>by cases h
 | j+1,x :: t,d,hb,h=>by
  rw[unsF]at h;split at h
  ·cases h
  ·obtain⟨d2,h2,rfl⟩:=Option.map_eq_some_iff.1 h;obtain⟨h3,h4⟩:=Qvh j _ d2 (hb.tail.drop _) h2;rw[List.length_drop]at h4;rename_i hle;have hx:=hb x (List.mem_cons_self ..);split
   ·refine⟨(hb.tail.take _).app (h3.cons ⟨by decide,by decide⟩),?_⟩;rename_i hc;have:0<(t.drop (x.toNat-1)).length:=List.length_pos_iff.2 hc.2;rw[List.length_drop]at this;rw[List.length_append,List.length_take,List.length_cons,List.length_cons];omega
   ·refine⟨(hb.tail.take _).app h3,?_⟩;rw[List.length_append,List.length_take,List.length_cons];omega
theorem Qvi{c:List Int}(hc:Bytes c){out:List Int}{e:Int}(h:unsR [] c c c.length=(out,e)):Bytes out∧out.length≤c.length:=by
 unfold unsR at h
 cases hu:unsF c.length c with
 | none=>rw[hu]at h;cases h;exact⟨Qvb,Nat.zero_le _⟩
 | some d =>
  rw[hu]at h;dsimp only at h;split at h
  ·cases h;exact Qvh _ _ _ hc hu
  ·cases h;exact⟨Qvb,Nat.zero_le _⟩
theorem Qvj{b:List Int}(hb:Bytes b):unsR [] (Qle b) (Qle b) (Qle b).length=(b,0):=by
 unfold unsR;rw[Qvd _ b _ (Nat.le_refl _) hb (Nat.le_refl _)];dsimp only;rw[List.nil_append,if_pos rfl]
theorem Qvk:∀(l:List Int),Bytes l→leb (leI l) l.length=l
 | [],_=>rfl
 | b :: l,h=>by
  have hb:=h b (List.mem_cons_self ..);have hr:=(Qmx h.tail).1;simp only[List.length_cons,leb,leI];rw[show(b+256*leI l)%256=b by omega,show(b+256*leI l)/256=leI l by omega,Qvk l h.tail]
theorem Qvl:∀(n:Nat) (x:Int),0≤x→x<256^n→leI (leb x n)=x
 | 0,x,h0,h1=>by simp at h1;simp[leb,leI];omega
 | n+1,x,h0,h1=>by
  rw[Int.pow_succ]at h1;simp only[leb,leI];rw[Qvl n (x/256) (by omega) (by omega)];omega
theorem hashP_r(b:List Int):R64 (Qmn 0 b):=by
 unfold Qmn sumP;split<;>(unfold finP;exact Qnl _ _ _)
theorem Qvm{c:List Int}(hc:Bytes c)(hf:Free c)(hcl:c.length≤1000000000)(k:Nat)(hk:c.length+5≤k) :
  ∃out e,Qbx.f k c=some (out,e)∧(e=0→Bytes out∧out.length≤c.length∧c++[0]=Qoa out)∧(∀b,Bytes b→c++[0]=Qoa b→e=0∧out=b):=by
 have hsb:∀b,Bytes b→c++[0]=Qoa b→c=Qle (b++leb (Qmn 0 b) 8):=fun b hb h=>by
  unfold Qoa at h;exact List.append_cancel_right h
 have hbl:∀b,Bytes b→Bytes (b++leb (Qmn 0 b) 8):=fun b hb=>hb.app (Quh 8 _)
 unfold Qbx.f;rw[Qvf hc hf hcl k hk,Option.bind_some]
 by_cases h0:c=[]
 ·rw[if_pos h0,if_neg (by decide)];refine⟨[],2,rfl,fun h=>absurd h (by decide),fun b hb h=>?_⟩;have h1:=hsb b hb h;rw[h0]at h1;exact absurd h1.symm (Qug _ _ (Nat.le_refl _) (hbl b hb)).2.2
 ·rw [if_neg h0];obtain⟨o,e0,ho⟩:∃o e0,unsR [] c c c.length=(o,e0):=⟨_,_,rfl⟩;rw[ho];obtain⟨hbo,hlo⟩:=Qvi hc ho;have hun:∀b,Bytes b→c++[0]=Qoa b→e0=0∧o=b++leb (Qmn 0 b) 8:=fun b hb h=>by
   have h1:=hsb b hb h;have h2:=Qvj (hbl b hb);rw[← h1,ho]at h2
   cases h2
   exact⟨rfl,rfl⟩
  dsimp only
  by_cases he:e0=0
  ·rw [if_pos he,if_pos ⟨hbo,by omega⟩];have hst:=Qvg ho he;unfold Qqg
   by_cases h8:o.length<8
   ·rw[if_pos h8];refine⟨[],2,rfl,fun h=>absurd h (by decide),fun b hb h=>?_⟩;have h2:=(hun b hb h).2;rw[h2,List.length_append,Qjn]at h8;omega
   ·rw[if_neg h8];have hdl:(o.drop (o.length-8)).length=8:=by rw[List.length_drop];omega
    by_cases hh:leI (o.drop (o.length-8))=Qmn 0 (o.take (o.length-8))
    ·rw[if_pos hh];refine⟨_,0,rfl,fun _=>⟨hbo.take _,by rw[List.length_take];omega,?_⟩,fun b hb h=>⟨rfl,?_⟩⟩
     ·unfold Qoa;rw[← hh];have h3:=Qvk (o.drop (o.length-8)) (hbo.drop _);rw[hdl]at h3;rw[h3,List.take_append_drop,hst]
     ·have h2:=(hun b hb h).2;rw[h2,List.length_append,Qjn,Nat.add_sub_cancel,List.take_left' rfl]
    ·rw[if_neg hh];refine⟨[],5,rfl,fun h=>absurd h (by decide),fun b hb h=>?_⟩;have h2:=(hun b hb h).2
     exfalso
     apply hh;have hr:=hashP_r b;rw[h2,List.length_append,Qjn,Nat.add_sub_cancel,List.take_left' rfl,List.drop_left' rfl,Qvl 8 _ hr.1 (by have:=hr.2;simpa using this)]
  ·rw[if_neg he];exact⟨[],e0,rfl,fun h=>absurd h he,fun b hb h=>absurd (hun b hb h).1 he⟩
theorem Qvn{c:List Int}(hc:Bytes c)(hf:Free c)(hcl:c.length≤1000000000)(k:Nat)(hk:c.length+5≤k) :
  ∃r1 r2 r3 r4 r5,Qbw.f k c=some (r1,r2,r3,r4,r5)∧(r5=0→okR (⟨r1,r2,r3,r4⟩:Rec)∧c++[0]=Qud (⟨r1,r2,r3,r4⟩:Rec))∧(∀r',okR r'→c++[0]=Qud r'→r5=0∧(⟨r1,r2,r3,r4⟩:Rec)=r'):=by
 obtain⟨out,e,ho,h1,h2⟩:=Qvm hc hf hcl k hk;unfold Qbw.f;rw[ho,Option.bind_some];dsimp only
 by_cases he:e=0
 ·obtain⟨hbo,hlo,hso⟩:=h1 he;rw[if_pos he];unfold Qcn.f;rw[if_pos ⟨hbo,by omega⟩]
  cases hr:recL out with
  | ok p =>
   obtain⟨⟨d,q,a,b⟩,i⟩:=p;obtain⟨e1,e2,e3,e4⟩:=Quy hbo hr;refine⟨d,q,a,b,0,rfl,fun _=>⟨⟨e2,e3,e4⟩,?_⟩,fun r' hr' hfr=>⟨rfl,?_⟩⟩
   ·rw[hso,e1];rfl
   ·have h3:=(h2 _ (Qum hr') hfr).2;obtain⟨i2,h4⟩:=Quz hr'.2.1 hr'.2.2 hr'.1;rw[← h3,hr]at h4
    cases h4
    rfl
  | error p =>
   obtain⟨er,i⟩:=p;refine⟨_,_,_,_,er,rfl,fun h=>absurd h (Qqz hr),fun r' hr' hfr=>?_⟩;have h3:=(h2 _ (Qum hr') hfr).2;obtain⟨i2,h4⟩:=Quz hr'.2.1 hr'.2.2 hr'.1;rw[← h3,hr]at h4
   cases h4
 ·rw[if_neg he];exact⟨_,_,_,_,e,rfl,fun h=>absurd h he,fun r' hr' hfr=>absurd (h2 _ (Qum hr') hfr).1 he⟩
theorem Qvo(a b:ByteArray):a.toList=b.toList↔bytesOf a=bytesOf b:=by
 constructor
 ·intro h;unfold bytesOf;rw[Lib.toList_data,Lib.toList_data]at h;rw[h]
 ·intro h;rw[Qoj h]
theorem Qvp{x:Int}(h:0≤x∧x<256):wrap64 x=x:=by unfold wrap64;omega
theorem Qvq(s:ByteArray)(hs:s.size≤1000000000)(hf:Free (bytesOf s)):∀(d i k:Nat),i+d=s.size→Qbl.l0 (k+d+1) s (i:Int)=if s.size=0 then some ((⟨#[]⟩:ByteArray),2)else Qbl.l1 k s (⟨#[]⟩:ByteArray) s
 | 0,i,k,hd=>by
  unfold Qbl.l0;rw[if_neg (by omega)]
  by_cases h:s.size=0
  ·rw[if_pos ((size_nil_iff s).2 h),if_pos h]
  ·rw[if_neg (fun e=>h ((size_nil_iff s).1 e)),if_neg h]
 | d+1,i,k,hd=>by
  have hi:i<(bytesOf s).length:=by rw[Qdi];omega
  have hz:bt s (i:Int)≠0:=by
   rw[Qos,rd_get hi];exact hf _ (List.getElem_mem hi)
  unfold Qbl.l0;rw[if_pos (by omega),if_pos (by omega),if_neg hz,Qot i (by omega)];exact Qvq s hs hf d (i+1) k (by omega)
theorem Qvr(s:ByteArray)(hs:s.size≤1000000000):∀(j k:Nat) (a r:ByteArray),r.size≤j→Free (bytesOf r)→a.size+r.size≤s.size→j+2*s.size+10≤k →
  ∃o e,Qbl.l1 k s a r=some (o,e)∧unsR (bytesOf a) (bytesOf r) (bytesOf s) j=(bytesOf o,e):=by
 intro j
 induction j with
 | zero =>
  intro k a r hj hf hl hk;obtain⟨k,rfl⟩:∃m,k=m+1:=⟨k-1,by omega⟩;have hr:bytesOf r=[]:=List.eq_nil_of_length_eq_zero (by rw[Qdi];omega);obtain⟨o1,h1,h2⟩:=Qox a k (by omega) (by omega);unfold Qbl.l1 unsR;rw[if_pos ((size_nil_iff r).2 (by omega)),h1,Option.bind_some,hr,Qvc];dsimp only;rw[List.append_nil,← h2]
  by_cases he:bytesOf o1=bytesOf s
  ·rw[if_pos ((Qvo _ _).2 he),if_pos he];exact⟨_,_,rfl,rfl⟩
  ·rw[if_neg (fun h=>he ((Qvo _ _).1 h)),if_neg he];exact⟨_,_,rfl,rfl⟩
 | succ j ih =>
  intro k a r hj hf hl hk;obtain⟨k,rfl⟩:∃m,k=m+1:=⟨k-1,by omega⟩;have hrl:=Qdi r
  rcases hrc:bytesOf r with _ |⟨x,t⟩
  ·obtain⟨o1,h1,h2⟩:=Qox a k (by omega) (by omega);unfold Qbl.l1 unsR;rw[if_pos ((size_nil_iff r).2 (by rw[← hrl,hrc];rfl)),h1,Option.bind_some,Qvc];dsimp only;rw[List.append_nil,← h2]
   by_cases he:bytesOf o1=bytesOf s
   ·rw[if_pos ((Qvo _ _).2 he),if_pos he];exact⟨_,_,rfl,rfl⟩
   ·rw[if_neg (fun h=>he ((Qvo _ _).1 h)),if_neg he];exact⟨_,_,rfl,rfl⟩
  ·have hrb:Bytes (x :: t):=hrc ▸ Qmw r;rw[hrc]at hrl hf;rw[List.length_cons]at hrl;have hx:=hrb x (List.mem_cons_self ..);have c:=hf x (List.mem_cons_self ..);have hbt:bt r 0=x:=by
    have h:=Qos r 0;rw[hrc]at h;exact h
   obtain⟨m,hm⟩:∃m:Nat,x=(m:Int)+1:=⟨x.toNat-1,by omega⟩;have hxt:x.toNat=m+1:=by omega
   unfold Qbl.l1;rw[if_neg (fun h=>by have:=(size_nil_iff r).1 h;omega),if_pos (by omega),hbt,Qvp hx,hxt]
   by_cases hsh:t.length<m
   ·rw[if_pos (by omega)];unfold unsR;rw[unsF,hxt,if_pos (by omega)];exact⟨_,_,rfl,rfl⟩
   ·have e1:bytesOf (r.extract 1 (m+1))=t.take m:=by rw[Qna,hrc];simp
    have e2:bytesOf (r.extract (m+1) r.size)=t.drop m:=by rw[Qnp,hrc];simp
    have z1:(r.extract 1 (m+1)).size=m:=by rw[Qnb,e1,List.length_take];omega
    have z2:(r.extract (m+1) r.size).size=t.length-m:=by rw[Qnb,e2,List.length_drop]
    have hft:Free (t.drop m):=fun y hy=>hf y (List.mem_cons_of_mem _ (List.mem_of_mem_drop hy))
    rw[if_neg (by omega),if_pos (by omega),if_pos (by omega),if_pos (by omega),if_pos (by omega)];have hu:∀(z:List Int) (hz:z=if x<255∧t.drop m≠[]then [0]else []),unsR (bytesOf a) (x :: t) (bytesOf s) (j+1)=unsR (bytesOf a++t.take m++z) (t.drop m) (bytesOf s) j:=by
     intro z hz;unfold unsR;rw[unsF,hxt,if_neg (by omega),Nat.add_sub_cancel]
     cases unsF j (t.drop m)with
     | none=>rfl
     | some d =>
      simp only[Option.map_some];have:bytesOf a++(t.take m++(if x<255∧t.drop m≠[]then 0 :: d else d))=bytesOf a++t.take m++z++d:=by
       rw[hz]
       by_cases h:x<255∧t.drop m≠[]
       ·rw[if_pos h,if_pos h];simp
       ·rw[if_neg h,if_neg h];simp
      rw[this]
    by_cases b:x<255
    ·rw[if_pos b]
     by_cases hne:t.drop m=[]
     ·have hz0:(r.extract (m+1) r.size).size=0:=by rw[Qnb,e2,hne];rfl
      rw[if_pos ((size_nil_iff _).2 hz0),hu [] (by rw[if_neg (fun h=>h.2 hne)]),List.append_nil,← e2,← e1,← Qoh];exact ih k _ _ (by omega) (by rw[e2];exact hft) (by rw[ByteArray.size_append];omega) (by omega)
     ·have hpos:0<(t.drop m).length:=List.length_pos_iff.2 hne;rw[List.length_drop]at hpos;have hs0:((⟨#[0]⟩:ByteArray)).size=1:=rfl;have hb0:bytesOf (⟨#[0]⟩:ByteArray)=[0]:=rfl;rw[if_neg (fun h=>by have:=(size_nil_iff _).1 h;omega),if_pos (by rw[ByteArray.size_append];omega),hu [0] (by rw[if_pos ⟨b,hne⟩]),← e2,← e1,← hb0,← Qoh,← Qoh];exact ih k _ _ (by omega) (by rw[e2];exact hft) (by rw[ByteArray.size_append,ByteArray.size_append];omega) (by omega)
    ·rw[if_neg b,hu [] (by rw[if_neg (fun h=>b h.1)]),List.append_nil,← e2,← e1,← Qoh];exact ih k _ _ (by omega) (by rw[e2];exact hft) (by rw[ByteArray.size_append];omega) (by omega)
theorem Qvs(s:ByteArray)(hs:s.size≤1000000000)(hf:Free (bytesOf s))(k:Nat)(hk:4*s.size+20≤k) :
  ∃o e,Qbl.f k s=some (o,e)∧(if bytesOf s=[]then(([]:List Int),(2:Int))else unsR [] (bytesOf s) (bytesOf s) (bytesOf s).length)=(bytesOf o,e):=by
 obtain⟨m,rfl⟩:∃m,k=m+s.size+1:=⟨k-s.size-1,by omega⟩;have h:=Qvq s hs hf s.size 0 m (by omega);unfold Qbl.f;rw[show(0:Int)=((0:Nat):Int) from rfl,h];have hl:=Qdi s
 by_cases h0:s.size=0
 ·rw[if_pos h0,if_pos (List.eq_nil_of_length_eq_zero (by omega))];exact⟨_,_,rfl,rfl⟩
 ·rw[if_neg h0,if_neg (fun e=>by rw[e]at hl;exact h0 hl.symm)];obtain⟨o,e,h1,h2⟩:=Qvr s hs s.size m (⟨#[]⟩:ByteArray) s (Nat.le_refl _) hf (by show 0+s.size≤s.size;omega) (by omega);rw[hl];exact⟨o,e,h1,h2⟩
theorem Qvt{k:Nat}(s:ByteArray)(h:s.size≤8)(hk:20≤k):Qba.f k s=some (leI (bytesOf s)):=by
 rw[← Qnc s h];exact Qdo (g:=fun k=>Qba.f k s) (Qba.mono _) (by omega) (Qkp _ (by omega))
theorem Qvu(s:ByteArray)(hs:s.size≤1000000000)(hf:Free (bytesOf s))(k:Nat)(hk:4*s.size+200≤k) :
  ∃o e,Qbp.f k s=some (o,e)∧Qbx.f k (bytesOf s)=some (bytesOf o,e)∧o.size≤s.size:=by
 obtain⟨o,e,h1,h2⟩:=Qvs s hs hf k (by omega);have hsl:=Qdi s;have hos:o.size≤s.size:=by
  rw[Qnb,Qnb s]
  by_cases h0:bytesOf s=[]
  ·rw[if_pos h0]at h2;have:=congrArg Prod.fst h2;dsimp only at this;rw[← this];exact Nat.zero_le _
  ·rw[if_neg h0]at h2;exact(Qvi (Qmw s) h2).2
 unfold Qbp.f Qbx.f;rw[h1,Qvf (Qmw s) hf (by omega) k (by omega),h2,Option.bind_some,Option.bind_some];dsimp only;have hol:=Qdi o
 by_cases he:e=0
 ·have hbl:Bytes (bytesOf o)∧(bytesOf o).length≤35184372088824:=⟨Qmw o,by omega⟩;rw[if_pos he,if_pos he,if_pos hbl];unfold Qqg
  by_cases h8:o.size<8
  ·rw[if_pos (by unfold wrap64;omega),if_pos (by omega)];exact⟨_,_,rfl,rfl,Nat.zero_le _⟩
  ·have hw:wrap64 ((o.size:Int)-8)=((o.size-8:Nat):Int):=by unfold wrap64;omega
   have z0:(o.extract 0 (o.size-8)).size=o.size-8:=by simp
   have b0:bytesOf (o.extract 0 (o.size-8))=(bytesOf o).take (o.size-8):=by rw[Qna];simp
   rw[hw,if_neg (show ¬((o.size-8:Nat):Int)<0 by omega),if_neg (show ¬(bytesOf o).length<8 by omega),if_pos (show 0≤((o.size-8:Nat):Int)by omega),if_pos (show((o.size-8:Nat):Int)≤(o.size:Int)by omega),Int.toNat_natCast,Qvt _ (by rw[Qno];omega) (by omega),Option.bind_some,Qns 0 _ k ⟨Int.le_refl _,by decide⟩ (by omega) (by omega),Option.bind_some,Qnp,b0,hol]
   by_cases hh:leI ((bytesOf o).drop (o.size-8))=Qmn 0 ((bytesOf o).take (o.size-8))
   ·rw[if_pos hh,if_pos hh];exact⟨_,_,rfl,by rw[b0],by omega⟩
   ·rw[if_neg hh,if_neg hh];exact⟨_,_,rfl,rfl,Nat.zero_le _⟩
 ·rw[if_neg he,if_neg he];exact⟨_,_,rfl,rfl,Nat.zero_le _⟩
theorem Qvv(k:Nat)(r:ByteArray)(p er n:Int)(he:er≠0):Qaz.f (k+1) r p er n=some (r,p,er,(⟨#[]⟩:ByteArray)):=by
 unfold Qaz.f;rw[if_neg he];unfold Qaz.j0;dsimp only;rw[if_pos rfl]
theorem Qvw(k:Nat)(r:ByteArray)(p:Int)(n:Nat)(h0:0<n)(h:n≤r.size):Qaz.f (k+1) r p 0 (n:Int)=some (r.extract n r.size,wrap64 (p+(n:Int)),0,r.extract 0 n):=by
 unfold Qaz.f;rw[if_pos rfl];unfold Qaz.j0;dsimp only;rw[if_neg qq_20,if_neg (by omega),if_pos (by omega),if_pos (by omega),Int.toNat_natCast]
theorem Qvx(k:Nat)(r:ByteArray)(p:Int):Qaz.f (k+1) r p 0 0=some (r,p,0,(⟨#[]⟩:ByteArray)):=by
 unfold Qaz.f;rw[if_pos rfl];unfold Qaz.j0;dsimp only;rw[if_pos (by decide)]
theorem Qvy(k:Nat)(r:ByteArray)(p:Int)(n:Int)(h0:0<n)(h:(r.size:Int)<n):Qaz.f (k+1) r p 0 n=some (r,p,2,(⟨#[]⟩:ByteArray)):=by
 unfold Qaz.f;rw[if_pos rfl];unfold Qaz.j0;dsimp only;rw[if_neg qq_20,if_pos (by omega)]
theorem Qvz(k:Nat)(r:ByteArray)(p x:Int)(t:List Int)(hk:20≤k)(h:bytesOf r=x :: t):∃r' p',Qax.f k r p 0 1=some (r',p',0,x)∧bytesOf r'=t:=by
 obtain⟨k,rfl⟩:∃m,k=m+1:=⟨k-1,by omega⟩;have hl:=Qdi r;rw[h,List.length_cons]at hl;refine⟨r.extract 1 r.size,wrap64 (p+1),?_,by rw[Qnp,h];rfl⟩;have b0:bytesOf (r.extract 0 1)=[x]:=by rw[Qna,h];rfl
 unfold Qax.f;rw[show(1:Int)=((1:Nat):Int) from rfl,Qvw k r p 1 (by omega) (by omega),Option.bind_some,Qvt _ qq_20 (by omega),Option.bind_some,b0];simp[leI]
theorem Qwa(k:Nat)(r:ByteArray)(p:Int)(hk:20≤k)(h:bytesOf r=[]):Qax.f k r p 0 1=some (r,p,2,0):=by
 obtain⟨k,rfl⟩:∃m,k=m+1:=⟨k-1,by omega⟩;have hl:=Qdi r;rw[h,List.length_nil]at hl;unfold Qax.f;rw[Qvy k r p 1 (by omega) (by omega),Option.bind_some];dsimp only;rw[Qvt _ (by decide) (by omega),Option.bind_some];rfl
theorem Qwb(k:Nat)(r:ByteArray)(p er:Int)(hk:20≤k)(he:er≠0):Qax.f k r p er 1=some (r,p,er,0):=by
 obtain⟨k,rfl⟩:∃m,k=m+1:=⟨k-1,by omega⟩;unfold Qax.f;rw[Qvv k r p er 1 he,Option.bind_some];dsimp only;rw[Qvt _ (by decide) (by omega),Option.bind_some];rfl
theorem Qwc(bs:List Int)(hb:Bytes bs):∀(n j i k:Nat) (x:Int) (r:ByteArray) (p:Int),n+j=9→0≤x→x<128^j→bs.drop i=bytesOf r→2*n+40≤k →
  match Qqi bs (n+1) (j:Int) (i:Int) x with
  | .ok (y,i1)=>∃(m:Nat) (r':ByteArray) (p':Int),i1=(m:Int)∧Qbb.l0 k x (128^j) (j:Int) r p 0=some (r',p',0,y)∧bs.drop m=bytesOf r'
  | .error (er,_)=>∃(r':ByteArray) (p':Int),er≠0∧Qbb.l0 k x (128^j) (j:Int) r p 0=some (r',p',er,0):=by
 intro n
 induction n with
 | zero =>
  intro j i k x r p hnj d a hd hk;obtain⟨k,rfl⟩:∃m,k=m+2:=⟨k-2,by omega⟩;have hj:j=9:=by omega
  subst hj;have e9:(128:Int)^9=9223372036854775808:=by decide
  unfold Qqi Qbb.l0;rw[if_pos (show((9:Nat):Int)<10 by decide)]
  by_cases hi:(i:Int)<(bs.length:Int)
  ·rw[if_pos hi];have hdr:=rd_range hb (show i<bs.length by omega);rw[Quo (show i<bs.length by omega)]at hd;obtain⟨r',p',h1,h2⟩:=Qvz (k+1) r p _ _ (by omega) hd.symm;rw[h1,Option.bind_some];dsimp only;rw[if_pos rfl,if_pos (show((9:Nat):Int)=9 from rfl)];unfold Qbb.j1
   by_cases c1:1<rd bs (i:Int)
   ·rw[if_pos ⟨rfl,c1⟩,if_pos (by simpa using c1)];refine⟨r',p',by decide,?_⟩;unfold Qaw.f;rw[if_pos rfl,Option.bind_some]
   ·have ho:=Qun 9 x (rd bs (i:Int)) (by omega) d a hdr.1 hdr.2 (fun _=>by omega);rw[if_neg (fun c=>c1 c.2),if_neg (show ¬decide (rd bs (i:Int) > 1)=true by simpa using c1),if_neg (show ¬rd bs (i:Int)≥128 by omega),if_neg (show ¬128≤rd bs (i:Int)by omega),ho];generalize rd bs (i:Int)=b at *;have hmd:Int.tmod b 128=b%128:=Int.tmod_eq_emod_of_nonneg hdr.1;rw[hmd,e9,Int.mul_comm (b%128),IntWalk.u64_in (9223372036854775808*(b%128)) (by omega),IntWalk.u64_in _ (by rw[e9]at a;omega)]
    by_cases c3:b=0
    ·rw[if_pos ⟨c3,by omega⟩,if_pos c3,if_pos (by omega)];refine⟨r',p',by decide,?_⟩;unfold Qaw.f;rw[if_pos rfl,Option.bind_some]
    ·rw[if_neg (fun c=>c3 c.1),if_neg c3];exact⟨i+1,r',p',by push_cast;rfl,rfl,h2.symm⟩
  ·rw[if_neg hi];rw[List.drop_of_length_le (by omega)]at hd;rw[Qwa (k+1) r p (by omega) hd.symm,Option.bind_some];dsimp only;rw[if_neg (by decide)];exact⟨r,p,by decide,rfl⟩
 | succ n ih =>
  intro j i k x r p hnj d a hd hk;obtain⟨k,rfl⟩:∃m,k=m+2:=⟨k-2,by omega⟩;have h8:=p128 j (by omega);have hpp:=Quq j;unfold Qqi Qbb.l0;rw[if_pos (show((j:Nat):Int)<10 by omega)]
  by_cases hi:(i:Int)<(bs.length:Int)
  ·rw [if_pos hi];have hdr:=rd_range hb (show i<bs.length by omega);rw[Quo (show i<bs.length by omega)]at hd;obtain⟨r',p',h1,h2⟩:=Qvz (k+1) r p _ _ (by omega) hd.symm;rw[h1,Option.bind_some];dsimp only;rw[if_pos rfl,if_neg (show ¬(j:Int)=9 by omega)];unfold Qbb.j1;have ho:=Qun j x (rd bs (i:Int)) (by omega) d a hdr.1 hdr.2 (fun _=>by omega);rw[if_neg (show ¬((j:Int)=9∧1<rd bs (i:Int))by omega),if_neg (show ¬false=true by decide),ho];generalize rd bs (i:Int)=b at *;have hm:(128:Int)^j*(b%128)≤128^j*127:=Int.mul_le_mul_of_nonneg_left (by omega) (by omega);have hm0:0≤(128:Int)^j*(b%128):=Int.mul_nonneg (by omega) (by omega);have hmd:Int.tmod b 128=b%128:=Int.tmod_eq_emod_of_nonneg hdr.1;have hp:(128:Int)^(j+1)=128^j*128:=Int.pow_succ ..;rw[hmd,Int.mul_comm (b%128),IntWalk.u64_in (128^j*(b%128)) (by omega),IntWalk.u64_in _ (by omega)]
   by_cases c2:128≤b
   ·rw[if_pos c2,if_pos (show b≥128 from c2),IntWalk.u64_in (128^j*128) (by omega),← hp,Qot j (by omega)];have:=ih (j+1) (i+1) k (x+128^j*(b%128)) r' p' (by omega) (by omega) (by rw[hp];omega) h2.symm (by omega)
    push_cast at this ⊢
    exact this
   ·rw[if_neg c2,if_neg (show ¬b≥128 from c2)]
    by_cases c3:b=0
    ·by_cases hj:(0:Int)<(j:Int)
     ·rw[if_pos ⟨c3,hj⟩,if_pos c3,if_pos (show(j:Int) > 0 from hj)];refine⟨r',p',by decide,?_⟩;unfold Qaw.f;rw[if_pos rfl,Option.bind_some]
     ·rw[if_neg (fun c=>hj c.2),if_pos c3,if_neg (show ¬(j:Int) > 0 from hj)];exact⟨i+1,r',p',by push_cast;rfl,rfl,h2.symm⟩
    ·rw[if_neg (fun c=>c3 c.1),if_neg c3];exact⟨i+1,r',p',by push_cast;rfl,rfl,h2.symm⟩
  ·rw[if_neg hi];rw[List.drop_of_length_le (by omega)]at hd;rw[Qwa (k+1) r p (by omega) hd.symm,Option.bind_some];dsimp only;rw[if_neg (by decide)];exact⟨r,p,by decide,rfl⟩
theorem Qwd(bs:List Int)(hb:Bytes bs)(hbl:bs.length≤1000000000)(i k:Nat)(least most:Int)(r:ByteArray)(p:Int)(hl:0≤least∧least≤1000000000)(hm:0≤most∧most≤1000000000)(hd:bs.drop i=bytesOf r)(hk:100≤k) :
  match Qql bs least most (i:Int)with
  | .ok (xs,i1)=>∃(m:Nat) (r' t:ByteArray) (p':Int),i1=(m:Int)∧Qbc.f k r p 0 least most=some (r',p',0,t)∧bs.drop m=bytesOf r'∧t=strOfNums xs
  | .error (er,_)=>∃(r':ByteArray) (p':Int) (e':Int),e'≠0∧Qbc.f k r p 0 least most=some (r',p',e',(⟨#[]⟩:ByteArray)):=by
 obtain⟨k,rfl⟩:∃m,k=m+4:=⟨k-4,by omega⟩;have hs:=Qwc bs hb 9 0 i (k+4) 0 r p rfl (Int.le_refl _) (by decide) hd (by omega);have hml:IntKind.u64.wrap (mx 0 least)=least:=by
  rw[show mx 0 least=least by unfold mx;split<;>omega,IntWalk.u64_in _ (by omega)]
 have hmm:IntKind.u64.wrap (mx 0 most)=most:=by
  rw[show mx 0 most=most by unfold mx;split<;>omega,IntWalk.u64_in _ (by omega)]
 unfold Qql Qbc.f Qbb.f;rw[show((0:Nat):Int)=0 from rfl,Int.pow_zero]at hs;rw[hmm]
 cases hv:Qqi bs 10 0 (i:Int) 0 with
 | error q =>
  obtain⟨er,i1⟩:=q;rw[hv]at hs;obtain⟨r',p',he,h1⟩:=hs;rw[h1,Option.bind_some];dsimp only;rw[if_neg he];unfold Qbc.j0;dsimp only;rw[if_neg (show ¬false=true by decide)];unfold Qbc.j1;dsimp only;rw[if_neg he];unfold Qbc.j2;dsimp only;rw[if_neg (show ¬false=true by decide),if_neg he];exact⟨_,_,er,he,rfl⟩
 | ok q =>
  obtain⟨n,i1⟩:=q;obtain⟨m,rfl,a,b,hdd,hmm2⟩:=Qut hb hv;rw[hv]at hs;obtain⟨m',r',p',hi1,h1,h2⟩:=hs;obtain rfl:m=m':=by omega
  have hrl:=Qdi r';rw[← h2,List.length_drop]at hrl;have hmle:m≤bs.length:=by
   have:=congrArg List.length hdd;have hp:=Quw 9 n;rw[List.length_drop,List.length_append]at this;omega
  rw[h1,Option.bind_some];dsimp only;rw[if_pos rfl];unfold Qbc.j0;dsimp only
  by_cases c1:most<n
  ·rw[if_pos c1,if_pos (show decide (n > most)=true by simpa using c1)];unfold Qaw.f;rw[if_pos rfl,Option.bind_some];dsimp only;unfold Qbc.j1;dsimp only;rw[if_neg (show ¬(3:Int)=0 by decide)];unfold Qbc.j2;dsimp only;rw[if_neg (show ¬false=true by decide),if_neg (show ¬(3:Int)=0 by decide)];exact⟨_,_,3,by decide,rfl⟩
  ·rw [if_neg c1,if_neg (show ¬decide (n > most)=true by simpa using c1)];unfold Qbc.j1;dsimp only;rw[if_pos rfl,hml];unfold Qbc.j2;dsimp only
   by_cases c2:n<least
   ·rw[if_pos c2,if_pos (show decide (n<least)=true by simpa using c2)];unfold Qaw.f;rw[if_pos rfl,Option.bind_some];dsimp only;rw[if_neg (show ¬(4:Int)=0 by decide)];exact⟨_,_,4,by decide,rfl⟩
   ·obtain⟨N,rfl⟩:=Int.eq_ofNat_of_zero_le a;rw[if_neg c2,if_neg (show ¬decide ((N:Int)<least)=true by simpa using c2),if_pos rfl,show wrap64 (N:Int)=(N:Int)by unfold wrap64;omega]
    by_cases c3:(m:Int)+(N:Int)≤(bs.length:Int)
    ·rw[if_pos c3]
     rcases Nat.eq_zero_or_pos N with hz|hz
     ·subst hz;rw[show(((0:Nat):Int))=0 from rfl,Qvx,Option.bind_some];exact⟨m,r',_,p',by omega,rfl,h2,rfl⟩
     ·rw[Qvw _ r' p' N hz (by omega),Option.bind_some];refine⟨m+N,_,_,_,by push_cast;rfl,rfl,?_,?_⟩
      ·rw[Qnp,← h2,List.drop_drop]
      ·rw[Int.toNat_natCast,Int.toNat_natCast];apply Qoj;rw[bytesOf_nums ((hb.drop _).take _),Qna,h2];simp
    ·rw[if_neg c3,Qvy _ r' p' (N:Int) (by omega) (by omega),Option.bind_some];exact⟨_,_,2,by decide,rfl⟩
theorem Qwe(k:Nat)(r:ByteArray)(p er least most:Int)(he:er≠0)(hk:100≤k):Qbc.f k r p er least most=some (r,p,er,(⟨#[]⟩:ByteArray)):=by
 obtain⟨k,rfl⟩:∃m,k=m+4:=⟨k-4,by omega⟩;have hg:Qbb.f (k+4) r p er=some (r,p,er,0):=by
  unfold Qbb.f Qbb.l0;rw[if_pos (show(0:Int)<10 by decide),Qwb (k+3) r p er (by omega) he,Option.bind_some];dsimp only;rw[if_neg he]
 unfold Qbc.f;rw[hg,Option.bind_some];dsimp only;rw[if_neg he];unfold Qbc.j0;dsimp only;rw[if_neg (show ¬false=true by decide)];unfold Qbc.j1;dsimp only;rw[if_neg he];unfold Qbc.j2;dsimp only;rw[if_neg (show ¬false=true by decide),if_neg he]
theorem Qwf(r:ByteArray)(p er:Int)(he:er≠0):Qav.f r p er=some (r,p,er):=by
 unfold Qav.f Qaw.f;rw[if_neg he,Option.bind_some];split<;>rfl
theorem Qwg(r:ByteArray)(p:Int):∃er,Qav.f r p 0=some (r,p,er)∧(er=0↔bytesOf r=[]):=by
 unfold Qav.f Qaw.f;rw[if_pos rfl,Option.bind_some];have hl:=Qdi r
 by_cases h:r.size=0
 ·rw[if_pos ((size_nil_iff r).2 h)];exact⟨0,rfl,fun _=>List.eq_nil_of_length_eq_zero (by omega),fun _=>rfl⟩
 ·rw[if_neg (fun e=>h ((size_nil_iff r).1 e))];exact⟨3,rfl,fun e=>absurd e (by decide),fun e=>by rw[e]at hl;exact absurd hl.symm h⟩
theorem Qwh (s:ByteArray) (hs:s.size≤1000000000) (k:Nat) (hk:200≤k) :
  match recL (bytesOf s)with
  | .ok ((d,q,a,b),_)=>Qbn.f k s=some (d,q,a,b,0)
  | .error _=>∃e,e≠0∧Qbn.f k s=some (false,0,(⟨#[]⟩:ByteArray),(⟨#[]⟩:ByteArray),e):=by
 have hbb:=Qmw s;have hl:=Qdi s;have hbt:bt s 0=rd (bytesOf s) 0:=Qos s 0;unfold recL Qbn.f
 by_cases h0:s.size=0
 ·rw[if_neg (by omega),if_pos h0];exact⟨2,by decide,rfl⟩
 ·rw [if_pos (by omega),if_neg h0,hbt]
  by_cases hkd:rd (bytesOf s) 0≠2∧rd (bytesOf s) 0≠3
  ·rw[if_pos hkd,if_pos hkd];exact⟨4,by decide,rfl⟩
  ·rw [if_neg hkd,if_neg hkd];have hd1:(bytesOf s).drop 1=bytesOf (s.extract 1 s.size):=(Qnp s 1).symm;have hg:=Qwc (bytesOf s) hbb 9 0 1 k 0 _ 0 rfl (Int.le_refl _) (by decide) hd1 (by omega);rw[show((0:Nat):Int)=0 from rfl,Int.pow_zero,show((1:Nat):Int)=0+1 from rfl]at hg;have e0:Qbb.f k (s.extract 1 s.size) 0 0=Qbb.l0 k 0 1 0 (s.extract 1 s.size) 0 0:=rfl;rw[e0]
   cases hv:Qqi (bytesOf s) 10 0 (0+1) 0 with
   | error q =>
    rw[hv]at hg;obtain⟨r',p',he,h1⟩:=hg;rw[h1,Option.bind_some];dsimp only;rw[Qwe k r' p' q.1 1 4096 he (by omega),Option.bind_some];dsimp only;rw[Qwf _ _ _ he,Qwe k r' p' q.1 0 1048576 he (by omega),Option.bind_some,Option.bind_some];dsimp only;rw[Qwf _ _ _ he,Option.bind_some];dsimp only;rw[if_neg he];refine⟨q.1,he,?_⟩;split<;>rfl
   | ok q =>
    obtain⟨q,i2⟩:=q;rw[hv]at hg;obtain⟨m2,r2,p2,hi2,h1,hd2⟩:=hg;subst hi2;rw[h1,Option.bind_some];dsimp only;have ht:=Qwd (bytesOf s) hbb (by omega) m2 k 1 4096 r2 p2 (by decide) (by decide) hd2 (by omega)
    cases htv:Qql (bytesOf s) 1 4096 (m2:Int)with
    | error y =>
     rw[htv]at ht;obtain⟨r',p',e',he,h2⟩:=ht;rw[h2,Option.bind_some];dsimp only;rw[Qwf _ _ _ he,Qwe k r' p' e' 0 1048576 he (by omega),Option.bind_some,Option.bind_some];dsimp only;rw[Qwf _ _ _ he,Option.bind_some];dsimp only;rw[if_neg he];refine⟨e',he,?_⟩;split<;>rfl
    | ok y =>
     obtain⟨xs,i3⟩:=y;rw[htv]at ht;obtain⟨m3,r3,t3,p3,hi3,h2,hd3,rfl⟩:=ht;subst hi3;rw[h2,Option.bind_some];dsimp only;have hnil:∀ {m:Nat} {r:ByteArray},(bytesOf s).drop m=bytesOf r→((0:Int)<((bytesOf s).length:Int)-(m:Int)↔bytesOf r≠[]):=by
      intro m r h;rw[← h,← List.length_pos_iff,List.length_drop];omega
     by_cases hk3:rd (bytesOf s) 0=3
     ·rw[if_pos hk3,if_pos hk3];obtain⟨er,h3,h4⟩:=Qwg r3 p3;rw[h3,Option.bind_some];dsimp only
      by_cases hend:(0:Int)<((bytesOf s).length:Int)-(m3:Int)
      ·have hne:er≠0:=fun e=>(hnil hd3).1 hend (h4.1 e)
       rw[if_pos hend,if_neg hne];exact⟨er,hne,rfl⟩
      ·have hz:er=0:=h4.2 (Classical.byContradiction fun c=>hend ((hnil hd3).2 c));rw[if_neg hend,if_pos hz]
     ·rw[if_neg hk3,if_neg hk3];have hu:=Qwd (bytesOf s) hbb (by omega) m3 k 0 1048576 r3 p3 (by decide) (by decide) hd3 (by omega)
      cases huv:Qql (bytesOf s) 0 1048576 (m3:Int)with
      | error y =>
       rw[huv]at hu;obtain⟨r',p',e',he,h5⟩:=hu;rw[h5,Option.bind_some];dsimp only;rw[Qwf _ _ _ he,Option.bind_some];dsimp only;rw[if_neg he];exact⟨e',he,rfl⟩
      | ok y =>
       obtain⟨ys,i4⟩:=y;rw[huv]at hu;obtain⟨m4,r4,t4,p4,hi4,h5,hd4,rfl⟩:=hu;subst hi4;rw[h5,Option.bind_some];dsimp only;obtain⟨er,h3,h4⟩:=Qwg r4 p4;rw[h3,Option.bind_some];dsimp only
       by_cases hend:(0:Int)<((bytesOf s).length:Int)-(m4:Int)
       ·have hne:er≠0:=fun e=>(hnil hd4).1 hend (h4.1 e)
        rw[if_pos hend,if_neg hne];exact⟨er,hne,rfl⟩
       ·have hz:er=0:=h4.2 (Classical.byContradiction fun c=>hend ((hnil hd4).2 c));rw[if_neg hend,if_pos hz]
theorem Qwi(s:ByteArray)(hs:s.size≤1000000000)(hf:Free (bytesOf s))(k:Nat)(hk:4*s.size+300≤k) :
  ∃r1 r2 r3 r4 r5,Qbo.f k s=some (r1,r2,r3,r4,r5)∧(r5=0→okR (⟨r1,r2,r3,r4⟩:Rec)∧bytesOf s++[0]=Qud (⟨r1,r2,r3,r4⟩:Rec))∧(∀r',okR r'→bytesOf s++[0]=Qud r'→r5=0∧(⟨r1,r2,r3,r4⟩:Rec)=r'):=by
 obtain⟨o,e,h1,h2,hos⟩:=Qvu s hs hf k (by omega);obtain⟨r1,r2,r3,r4,r5,h3,h4,h5⟩:=Qvn (Qmw s) hf (by rw[Qdi];exact hs) k (by rw[Qdi];omega);have hrs:=Qwh o (by omega) k (by omega);have hol:=Qdi o;unfold Qbw.f at h3;unfold Qbo.f;rw[h2,Option.bind_some]at h3;rw[h1,Option.bind_some];dsimp only at h3 ⊢
 by_cases he:e=0
 ·rw[if_pos he]at h3 ⊢;unfold Qcn.f at h3;rw[if_pos ⟨Qmw o,by omega⟩]at h3
  cases hr:recL (bytesOf o)with
  | ok p =>
   obtain⟨⟨d,q,a,b⟩,i⟩:=p;rw[hr]at h3 hrs;dsimp only at h3 hrs
   cases h3
   rw[hrs,Option.bind_some];exact⟨_,_,_,_,_,rfl,h4,h5⟩
  | error p =>
   obtain⟨er,i⟩:=p;rw[hr]at h3 hrs;dsimp only at h3 hrs
   cases h3
   obtain⟨e',he',h6⟩:=hrs;rw[h6,Option.bind_some];refine⟨_,_,_,_,_,rfl,fun h=>absurd h he',fun r' hr' hfr=>?_⟩;exact absurd (h5 r' hr' hfr).1 (Qqz hr)
 ·rw[if_neg he]at h3 ⊢
  cases h3
  exact⟨_,_,_,_,_,rfl,h4,h5⟩
noncomputable def recO(c:List Int):Option Rec:=@dite _ (∃r,okR r∧c++[0]=Qud r) (Classical.propDecidable _) (fun h=>some h.choose) (fun _=>none)
theorem Qwj{c:List Int}{r1:Bool}{r2:Int}{r3 r4:ByteArray}{r5:Int}(h1:r5=0→okR (⟨r1,r2,r3,r4⟩:Rec)∧c++[0]=Qud (⟨r1,r2,r3,r4⟩:Rec))(h2:∀r',okR r'→c++[0]=Qud r'→r5=0∧(⟨r1,r2,r3,r4⟩:Rec)=r') :
  (recO c=some (⟨r1,r2,r3,r4⟩:Rec)∧r5=0)∨(recO c=none∧r5≠0):=by
 unfold recO
 by_cases h:∃r,okR r∧c++[0]=Qud r
 ·rw[dif_pos h];obtain⟨e1,e2⟩:=h2 _ h.choose_spec.1 h.choose_spec.2;exact .inl ⟨by rw[e2],e1⟩
 ·rw[dif_neg h];exact .inr ⟨rfl,fun h0=>h ⟨_,h1 h0⟩⟩
def fndO(o:Option Rec)(sg fr tt:Int):List C.Fd:=match o with
 | some r=>[(⟨r,sg,fr,tt-fr+1⟩:C.Fd)]
 | none=>[]
noncomputable def fnd:KS→List Int→List Int→List C.Fd
 | _,_,[]=>[]
 | K,held,x :: l=>if x=0 then fndO (recO held) K.2.1 K.2.2.2 K.2.2.1++fnd (cutN K x) [] l
   else fnd (cutN K x) (if(cutN K x).2.2.1-(cutN K x).2.2.2=0 then []else held++[x]) l
theorem Qwk(k:Nat):∀(l:List Int) (K:KS) (held:List Int) (ch fo em:Int) (out:List C.Fd),Bytes l→Bytes held→Free held→held.length+l.length≤1000000→2000000≤k →
  ∃K' held' ch' fo' em',Qrm k (K,held,ch,fo,em,out) l=some (K',held',ch',fo',em',out++fnd K held l)
 | [],K,held,ch,fo,em,out,_,_,_,_,_=>⟨K,held,ch,fo,em,by simp[Qrm,fnd]⟩
 | x :: l,K,held,ch,fo,em,out,hb,hh,hf,hl,hk=>by
  have hbl:Bytes l:=fun y hy=>hb y (List.mem_cons_of_mem _ hy)
  have hbx:=hb x (List.mem_cons_self ..);simp only[List.length_cons]at hl
  by_cases hx:x=0
  ·subst hx;obtain⟨r1,r2,r3,r4,r5,g1,g2,g3⟩:=Qvn hh hf (by omega) k (by omega);have h1:Qrl k (K,held,ch,fo,em,out) 0=some (cutN K 0,[],ch+1,(if r5=0 then fo+1 else fo),(if K.2.2.2=K.2.2.1 then em+1 else em),endO out r5 r1 r2 r3 r4 K.2.1 K.2.2.2 K.2.2.1):=by
    unfold Qrl;rw[if_pos rfl];dsimp only;rw[g1];rfl
   have h2:endO out r5 r1 r2 r3 r4 K.2.1 K.2.2.2 K.2.2.1=out++fndO (recO held) K.2.1 K.2.2.2 K.2.2.1:=by
    unfold endO fndO
    rcases Qwj g2 g3 with⟨e1,e2⟩ |⟨e1,e2⟩
    ·rw[if_pos e2,e1]
    ·rw[if_neg e2,e1,List.append_nil]
   obtain⟨K',held',ch',fo',em',h3⟩:=Qwk k l (cutN K 0) [] (ch+1) (if r5=0 then fo+1 else fo) (if K.2.2.2=K.2.2.1 then em+1 else em) (out++fndO (recO held) K.2.1 K.2.2.2 K.2.2.1) hbl (by simp[Bytes]) (by simp[Free]) qq_20 hk;refine⟨K',held',ch',fo',em',?_⟩;unfold Qrm fnd;rw[h1,Option.bind_some,h2,h3,if_pos rfl,List.append_assoc]
  ·have h1:Qrl k (K,held,ch,fo,em,out) x=some (cutN K x,(if(cutN K x).2.2.1-(cutN K x).2.2.2=0 then []else held++[x]),ch,fo,em,out):=by
    unfold Qrl;rw[if_neg hx]
   obtain⟨K',held',ch',fo',em',h3⟩:=Qwk k l (cutN K x) (if(cutN K x).2.2.1-(cutN K x).2.2.2=0 then []else held++[x]) ch fo em out hbl (by split;simp[Bytes];exact hh.app (fun y hy=>by rw[List.mem_singleton.1 hy];exact hbx)) (by split;simp[Free];intro y hy;rcases List.mem_append.1 hy with h|h;exact hf y h;rw[List.mem_singleton.1 h];exact hx) (by split;simp;omega;rw[List.length_append];simp only[List.length_singleton];omega) hk;refine⟨K',held',ch',fo',em',?_⟩;unfold Qrm fnd;rw[h1,Option.bind_some,h3,if_neg hx]
structure Inv (n:Nat) (pre:List Int) (sg at_ fr:Nat) (held:List Int):Prop where
  pos:fr≤at_∧at_<n
  len:pre.length=sg*n+at_
  held:held=pre.drop (sg*n+fr)
def ksOf(n sg at_ fr:Nat):KS:=((n:Int),(sg:Int),(at_:Int),(fr:Int))
theorem Qwl(n sg at_ fr:Nat)(x:Int)(hs:sg<1000000000000):cutN (ksOf n sg at_ fr) x=if at_+1=n then ksOf n (sg+1) 0 0 else ksOf n sg (at_+1) (if x=0 then at_+1 else fr):=by
 unfold cutN cutF ksOf;dsimp only
 by_cases h:at_+1=n
 ·rw[if_pos (by omega),if_pos h,show((sg:Int)+1)%18446744073709551616=((sg+1:Nat):Int)by omega];rfl
 ·rw[if_neg (by omega),if_neg h];split<;>rfl
def Qwm(L:List Int)(n:Nat)(c:Ck):List Int:=(L.drop (c.1.toNat*n+c.2.1.toNat)).take (c.2.2-c.2.1).toNat
noncomputable def fndC(L:List Int)(n:Nat)(c:Ck):List C.Fd:=fndO (recO (Qwm L n c)) c.1 c.2.1 c.2.2
theorem Qwn(L:List Int)(n:Nat):∀(l pre held:List Int) (sg at_ fr:Nat),L=pre++l→L.length≤1000000→Inv n pre sg at_ fr held→fnd (ksOf n sg at_ fr) held l=(cutA (ksOf n sg at_ fr) l).1.flatMap (fndC L n)
 | [],pre,held,sg,at_,fr,_,_,_=>by simp[fnd,cutA]
 | x :: l,pre,held,sg,at_,fr,hL,hLl,hI=>by
  obtain⟨hp,hlen,hheld⟩:=hI;have hLlen:L.length=pre.length+(l.length+1):=by rw[hL,List.length_append,List.length_cons]
  have hsgn:sg≤sg*n:=Nat.le_mul_of_pos_right _ (by omega);have hnext:L=(pre++[x])++l:=by rw[hL];simp
  have hpl:(pre++[x]).length=sg*n+at_+1:=by rw[List.length_append];simp only[List.length_singleton];omega
  have hmul:(sg+1)*n=sg*n+n:=Nat.succ_mul _ _;unfold fnd cutA;rw[List.flatMap_append]
  by_cases hx:x=0
  ·subst hx;rw[if_pos rfl];have hO:cutO (ksOf n sg at_ fr) 0=[((sg:Int),(fr:Int),(at_:Int))]:=rfl;have hc:fndC L n ((sg:Int),(fr:Int),(at_:Int))=fndO (recO held) (sg:Int) (fr:Int) (at_:Int):=by
    unfold fndC Qwm;dsimp only;rw[Int.toNat_natCast,Int.toNat_natCast,show((at_:Int)-(fr:Int)).toNat=at_-fr by omega,hL,List.drop_append_of_le_length (by omega),List.take_append_of_le_length (by rw[List.length_drop];omega),List.take_of_length_le (by rw[List.length_drop];omega),← hheld]
   rw[hO];simp only[List.flatMap_cons,List.flatMap_nil,List.append_nil];rw[hc]
   congr 1
   rw[Qwl n sg at_ fr 0 (by omega)]
   by_cases hw:at_+1=n
   ·rw[if_pos hw];exact Qwn L n l (pre++[0]) [] (sg+1) 0 0 hnext hLl ⟨by omega,by rw[hpl,hmul];omega,by rw[List.drop_of_length_le (by rw[hpl,hmul];omega)]⟩
   ·rw[if_neg hw,if_pos rfl];exact Qwn L n l (pre++[0]) [] sg (at_+1) (at_+1) hnext hLl ⟨by omega,by rw[hpl];omega,by rw[List.drop_of_length_le (by rw[hpl];omega)]⟩
  ·rw[if_neg hx];have hO:cutO (ksOf n sg at_ fr) x=[]:=by unfold cutO;rw[if_neg hx]
   rw[hO,Qwl n sg at_ fr x (by omega)];simp only[List.flatMap_nil,List.nil_append]
   by_cases hw:at_+1=n
   ·rw[if_pos hw];have h0:(ksOf n (sg+1) 0 0).2.2.1-(ksOf n (sg+1) 0 0).2.2.2=0:=rfl;rw[if_pos h0];exact Qwn L n l (pre++[x]) [] (sg+1) 0 0 hnext hLl ⟨by omega,by rw[hpl,hmul];omega,by rw[List.drop_of_length_le (by rw[hpl,hmul];omega)]⟩
   ·rw[if_neg hw,if_neg hx];have h0:¬(ksOf n sg (at_+1) fr).2.2.1-(ksOf n sg (at_+1) fr).2.2.2=0:=by
     unfold ksOf;dsimp only;omega
    rw[if_neg h0];exact Qwn L n l (pre++[x]) (held++[x]) sg (at_+1) fr hnext hLl ⟨by omega,by rw[hpl];omega,by rw[hheld,List.drop_append_of_le_length (by omega)]⟩
def nOf(a0:Int):Nat:=if 1<a0 then a0.toNat else 1
theorem Qwo(a0:Int):(Qrp a0).1=ksOf (nOf a0) 0 0 0:=by
 unfold Qrp ksOf nOf;dsimp only;split
 ·rw[Int.toNat_of_nonneg (by omega)];rfl
 ·rfl
noncomputable def allF(a0:Int)(l:List Int):List C.Fd:=(cutA (ksOf (nOf a0) 0 0 0) l).1.flatMap (fndC l (nOf a0))
theorem Qwp(a0:Int)(l:List Int)(hb:Bytes l)(hl:l.length≤100000)(k:Nat)(hk:2000000≤k):Qcq.f k a0 l=some (allF a0 l):=by
 obtain⟨K',held',ch',fo',em',h⟩:=Qwk k l (Qrp a0).1 [] 0 0 0 [] hb (by simp[Bytes]) (by simp[Free]) qq_20 hk;unfold Qcq.f;rw[if_pos hl];have h':Qrm k (Qrp a0) l=some (K',held',ch',fo',em',[]++fnd (Qrp a0).1 [] l):=h;rw[h',Option.bind_some,List.nil_append,Qwo];unfold allF;rw[Qwn l (nOf a0) l [] [] 0 0 0 rfl (by omega) ⟨by unfold nOf;split<;>omega,by simp,by simp⟩]
def rB:Rec:=⟨false,1,⟨#[97]⟩,⟨#[]⟩⟩
def lB:List Int:=[5,2,1,1,97,9,178,219,227,238,248,239,180,212,0]
theorem lB_is:Qud rB=lB:=by kernel_rfl
theorem okB:okR rB:=⟨by kernel_rfl,by decide,by decide⟩
theorem Qwq:Bytes lB:=by
 unfold lB;intro x hx;simp only[List.mem_cons,List.not_mem_nil,or_false]at hx;omega
theorem recB:recO (lB.take 14)=some rB:=by
 have hb:Bytes (lB.take 14):=fun x hx=>Qwq x (List.mem_of_mem_take hx)
 have hf:Free (lB.take 14):=by
  unfold lB;intro x hx;simp only[List.take_succ_cons,List.take_zero,List.mem_cons,List.not_mem_nil,or_false]at hx;omega
 obtain⟨r1,r2,r3,r4,r5,g1,g2,g3⟩:=Qvn hb hf (by decide) 100 (by decide);have h:=g3 rB okB (by rw[lB_is];rfl)
 rcases Qwj g2 g3 with⟨e1,e2⟩ |⟨e1,e2⟩
 ·rw[e1,h.2]
 ·exact absurd h.1 e2
theorem allB:allF 64 lB=[(⟨rB,0,0,15⟩:C.Fd)]:=by
 have h:(cutA (ksOf (nOf 64) 0 0 0) lB).1=[(0,0,14)]:=by rfl
 unfold allF;rw[h,List.flatMap_cons,List.flatMap_nil,List.append_nil];unfold fndC;rw[show Qwm lB (nOf 64) (0,0,14)=lB.take 14 from rfl,recB];rfl
theorem salvB:Qcq.f 2000000 64 lB=some [(⟨rB,0,0,15⟩:C.Fd)]:=by
 rw[Qwp 64 lB Qwq (by decide) 2000000 (Nat.le_refl _),allB]
theorem salv0:Qcq.f 2000000 64 []=some []:=by
 rw[Qwp 64 [] (fun x hx=>by simp at hx) (by decide) 2000000 (Nat.le_refl _)];rfl
theorem recordB:∃t,Qbq.f 400 false 1 ⟨#[97]⟩ ⟨#[]⟩=some t∧bytesOf t=lB:=by
 obtain⟨t,h1,h2⟩:=Qru 400 false 1 ⟨#[97]⟩ ⟨#[]⟩ (by decide) (by decide) (by decide) (by decide) (by decide);exact⟨t,h1,h2.trans lB_is⟩
def cutP(sg:Int):Int→Int→List Int→List Ck
 | _,_,[]=>[]
 | fr,at_,x :: l=>if x=0 then(sg,fr,at_) :: cutP sg (at_+1) (at_+1) l else cutP sg fr (at_+1) l
def mkC(c:Ck):S164:=⟨c.1,c.2.1,c.2.2⟩
theorem Qwy(n sg at_ fr:Nat)(x:Int)(l:List Int)(hs:sg<1000000000000):(cutA (ksOf n sg at_ fr) (x :: l)).1=(if x=0 then [((sg:Int),(fr:Int),(at_:Int))]else [])++(cutA (if at_+1=n then ksOf n (sg+1) 0 0 else ksOf n sg (at_+1) (if x=0 then at_+1 else fr)) l).1:=by
 rw[← Qwl n sg at_ fr x hs];rfl
theorem Qwz(sg:Int):∀(l:List Int) (fr at_:Int),(cutP sg fr at_ l).length≤l.length
 | [],_,_=>by simp[cutP]
 | x :: l,fr,at_=>by
  have h1:=Qwz sg l (at_+1) (at_+1);have h2:=Qwz sg l fr (at_+1);unfold cutP;split
  ·simp only[List.length_cons];omega
  ·simp only[List.length_cons];omega
theorem Qxa(n sg:Nat)(hs:sg<1000000000000)(rest:List Int):∀(p:List Int) (at_ fr:Nat),at_<n→at_+p.length=n→(cutA (ksOf n sg at_ fr) (p++rest)).1=cutP sg fr at_ p++(cutA (ksOf n (sg+1) 0 0) rest).1
 | [],at_,fr,h1,h2=>by simp at h2;omega
 | x :: p,at_,fr,h1,h2=>by
  simp only[List.length_cons]at h2;rw[List.cons_append,Qwy n sg at_ fr x _ hs];unfold cutP
  by_cases hw:at_+1=n
  ·rw[if_pos hw];obtain rfl:p=[]:=List.eq_nil_of_length_eq_zero (by omega)
   by_cases hx:x=0
   ·rw[if_pos hx,if_pos hx];rfl
   ·rw[if_neg hx,if_neg hx];rfl
  ·rw[if_neg hw]
   by_cases hx:x=0
   ·rw[if_pos hx,if_pos hx,if_pos hx,Qxa n sg hs rest p (at_+1) (at_+1) (by omega) (by omega)];rfl
   ·rw[if_neg hx,if_neg hx,if_neg hx,Qxa n sg hs rest p (at_+1) fr (by omega) (by omega)];rfl
theorem Qxb(n sg:Nat)(hs:sg<1000000000000):∀(p:List Int) (at_ fr:Nat),at_+p.length<n→(cutA (ksOf n sg at_ fr) p).1=cutP sg fr at_ p
 | [],at_,fr,h1=>rfl
 | x :: p,at_,fr,h1=>by
  simp only[List.length_cons]at h1;rw[Qwy n sg at_ fr x _ hs,if_neg (show ¬at_+1=n by omega)];unfold cutP
  by_cases hx:x=0
  ·rw[if_pos hx,if_pos hx,if_pos hx,Qxb n sg hs p (at_+1) (at_+1) (by omega)];rfl
  ·rw[if_neg hx,if_neg hx,if_neg hx,Qxb n sg hs p (at_+1) fr (by omega)];rfl
theorem Qxc(n:Int)(X p:ByteArray)(hp:p.size≤1000000)(sg:Int):∀(d j k:Nat) (fr:Int) (out:List S164),j+d=p.size→out.length+d≤2000000→Qbs.l1 (k+d+1) n X out sg p fr (j:Int)=Qbs.l0 k n X (out++(cutP sg fr j ((bytesOf p).drop j)).map mkC) (IntKind.u64.wrap (sg+1))
 | 0,j,k,fr,out,hd,ho=>by
  unfold Qbs.l1;rw[if_neg (by omega),List.drop_of_length_le (by rw[Qdi];omega)];unfold cutP;rw[List.map_nil,List.append_nil]
 | d+1,j,k,fr,out,hd,ho=>by
  have hj:j<(bytesOf p).length:=by rw[Qdi];omega
  rw[Quo hj];unfold Qbs.l1 cutP;rw[if_pos (by omega),if_pos (by omega),Qos]
  by_cases hx:rd (bytesOf p) (j:Int)=0
  ·rw[if_pos hx,if_pos hx,if_pos (by omega),Qot j (by omega)];have:=Qxc n X p hp sg d (j+1) k ((j+1:Nat):Int) (out++[mkC (sg,fr,(j:Int))]) (by omega) (by simp only[List.length_append,List.length_singleton];omega);rw[show k+(d+1)=k+d+1 by omega];refine Eq.trans this ?_;rw[List.map_cons,List.append_assoc];rfl
  ·rw[if_neg hx,if_neg hx,Qot j (by omega),show k+(d+1)=k+d+1 by omega];exact Qxc n X p hp sg d (j+1) k fr out (by omega) (by omega)
theorem all_l0(n:Nat)(hn:0<n):∀(m:Nat) (X:ByteArray) (sg k:Nat) (out:List S164),X.size≤m→X.size≤1000000→sg+X.size≤100000000→out.length+X.size≤2000000→4*X.size+1≤k→Qbs.l0 k (n:Int) X out (sg:Int)=some (out++(cutA (ksOf n sg 0 0) (bytesOf X)).1.map mkC):=by
 intro m
 induction m with
 | zero =>
  intro X sg k out hX _ _ _ hk;obtain⟨k,rfl⟩:∃k',k=k'+1:=⟨k-1,by omega⟩;have hz:X.size=0:=by omega
  have hb:bytesOf X=[]:=List.eq_nil_of_length_eq_zero (by rw[Qdi];exact hz);unfold Qbs.l0;rw[if_pos ((size_nil_iff X).2 hz),hb];simp[cutA]
 | succ m ih =>
  intro X sg k out hX hm hs ho hk
  by_cases hz:X.size=0
  ·obtain⟨k,rfl⟩:∃k',k=k'+1:=⟨k-1,by omega⟩;have hb:bytesOf X=[]:=List.eq_nil_of_length_eq_zero (by rw[Qdi];exact hz);unfold Qbs.l0;rw[if_pos ((size_nil_iff X).2 hz),hb];simp[cutA]
  ·obtain⟨k,rfl⟩:∃k',k=k'+2:=⟨k-2,by omega⟩;have hlen:=Qdi X
   by_cases hg:n<X.size
   ·have hzp:(X.extract 0 n).size=n:=by simp only[ByteArray.size_extract];omega
    have hbp:bytesOf (X.extract 0 n)=(bytesOf X).take n:=by rw[Qna];simp
    have hzr:(X.extract n X.size).size=X.size-n:=by simp only[ByteArray.size_extract];omega
    unfold Qbs.l0;rw[if_neg (fun e=>hz ((size_nil_iff X).1 e)),if_pos (by omega),if_pos (by omega),if_pos (by omega),Int.toNat_natCast];unfold Qbs.j1;rw[if_pos (by omega),if_pos (by omega),hzp,Int.toNat_natCast];have h1:=Qxc (n:Int) (X.extract n X.size) (X.extract 0 n) (by omega) (sg:Int) n 0 (k-n-1) 0 out (by omega) (by omega);rw[show k-n-1+n+1=k by omega]at h1;refine Eq.trans h1 ?_;rw[IntWalk.u64_in ((sg:Int)+1) (by omega),List.drop_zero,hbp];have hc:=Qxa n sg (by omega) ((bytesOf X).drop n) ((bytesOf X).take n) 0 0 (by omega) (by rw[List.length_take];omega);rw[List.take_append_drop]at hc;have h2:=ih (X.extract n X.size) (sg+1) (k-n-1) (out++(cutP (sg:Int) 0 0 ((bytesOf X).take n)).map mkC) (by omega) (by omega) (by omega) (by
     have:=Qwz (sg:Int) ((bytesOf X).take n) 0 0;rw[List.length_take]at this;simp only[List.length_append,List.length_map];omega) (by omega)
    refine Eq.trans h2 ?_;rw[hc,Qnp,List.map_append,List.append_assoc];rfl
   ·unfold Qbs.l0;rw[if_neg (fun e=>hz ((size_nil_iff X).1 e)),if_neg (by omega)];unfold Qbs.j1;rw[if_pos (by omega),if_pos (by omega),Int.toNat_natCast];have h1:=Qxc (n:Int) (X.extract X.size X.size) X (by omega) (sg:Int) X.size 0 (k-X.size-1) 0 out (by omega) (by omega);rw[show k-X.size-1+X.size+1=k by omega]at h1;refine Eq.trans h1 ?_;obtain⟨k',hk'⟩:∃k',k-X.size-1=k'+1:=⟨k-X.size-2,by omega⟩;rw[hk'];unfold Qbs.l0;rw[if_pos ((size_nil_iff _).2 (by simp only[ByteArray.size_extract];omega)),List.drop_zero]
    congr 3
    by_cases he:X.size=n
    ·have hc:=Qxa n sg (by omega) [] (bytesOf X) 0 0 (by omega) (by omega);rw[List.append_nil]at hc;rw[hc];simp[cutA]
    ·rw[Qxb n sg (by omega) (bytesOf X) 0 0 (by omega)];rfl
theorem Qxd(a0:Int):mx 1 a0=(nOf a0:Int):=by
 unfold mx nOf;split
 ·rw[Int.toNat_of_nonneg (by omega)]
 ·rfl
theorem all_is(a0:Int)(X:ByteArray)(hX:X.size≤1000000)(k:Nat)(hk:4000001≤k):Qbs.f k a0 X=some ((cutA (ksOf (nOf a0) 0 0 0) (bytesOf X)).1.map mkC):=by
 unfold Qbs.f;rw[Qxd];have h:=all_l0 (nOf a0) (by unfold nOf;split<;>omega) X.size X 0 k [] (by omega) hX (by omega) qq_20 (by omega);rw[List.nil_append]at h;exact h
theorem Qxe(x:Nat)(h:x<4611686018427387904):wrap64 (x:Int)=(x:Int):=by unfold wrap64;omega
theorem Qxf(L:List Int)(n:Nat):∀(l pre held:List Int) (sg at_ fr:Nat),L=pre++l→L.length≤1000000→Inv n pre sg at_ fr held→Free held→∀c∈(cutA (ksOf n sg at_ fr) l).1,∃s f t:Nat,c=((s:Int),(f:Int),(t:Int))∧f≤t∧t<n∧s*n+t<L.length∧Free (Qwm L n c)
 | [],pre,held,sg,at_,fr,_,_,_,_=>by simp[cutA]
 | x :: l,pre,held,sg,at_,fr,hL,hLl,hI,hF=>by
  obtain⟨hp,hlen,hheld⟩:=hI;have hLlen:L.length=pre.length+(l.length+1):=by rw[hL,List.length_append,List.length_cons]
  have hsgn:sg≤sg*n:=Nat.le_mul_of_pos_right _ (by omega);have hnext:L=(pre++[x])++l:=by rw[hL];simp
  have hpl:(pre++[x]).length=sg*n+at_+1:=by rw[List.length_append];simp only[List.length_singleton];omega
  have hmul:(sg+1)*n=sg*n+n:=Nat.succ_mul _ _;have hnil:Free []:=by simp[Free]
  rw[Qwy n sg at_ fr x l (by omega)];intro c hc
  by_cases hx:x=0
  ·subst hx;rw[if_pos rfl]at hc
   rcases List.mem_append.1 hc with h|h
   ·obtain rfl:=List.mem_singleton.1 h;refine⟨sg,fr,at_,rfl,by omega,by omega,by omega,?_⟩;unfold Qwm;dsimp only;rw[Int.toNat_natCast,Int.toNat_natCast,show((at_:Int)-(fr:Int)).toNat=at_-fr by omega,hL,List.drop_append_of_le_length (by omega),List.take_append_of_le_length (by rw[List.length_drop];omega),List.take_of_length_le (by rw[List.length_drop];omega),← hheld];exact hF
   ·rw[if_pos rfl]at h
    by_cases hw:at_+1=n
    ·rw[if_pos hw]at h;exact Qxf L n l (pre++[0]) [] (sg+1) 0 0 hnext hLl ⟨by omega,by rw[hpl,hmul];omega,by rw[List.drop_of_length_le (by rw[hpl,hmul];omega)]⟩ hnil c h
    ·rw[if_neg hw]at h;exact Qxf L n l (pre++[0]) [] sg (at_+1) (at_+1) hnext hLl ⟨by omega,by rw[hpl];omega,by rw[List.drop_of_length_le (by rw[hpl];omega)]⟩ hnil c h
  ·rw[if_neg hx,List.nil_append,if_neg hx]at hc
   by_cases hw:at_+1=n
   ·rw[if_pos hw]at hc;exact Qxf L n l (pre++[x]) [] (sg+1) 0 0 hnext hLl ⟨by omega,by rw[hpl,hmul];omega,by rw[List.drop_of_length_le (by rw[hpl,hmul];omega)]⟩ hnil c hc
   ·rw[if_neg hw]at hc;exact Qxf L n l (pre++[x]) (held++[x]) sg (at_+1) fr hnext hLl ⟨by omega,by rw[hpl];omega,by rw[hheld,List.drop_append_of_le_length (by omega)]⟩ (by intro y hy;rcases List.mem_append.1 hy with h|h;exact hF y h;rw[List.mem_singleton.1 h];exact hx) c hc
def toF(x:C.Fd):S160:=⟨x.f0,x.f1,x.f2,x.f3⟩
theorem Qxg(n:Nat):∀(l:List Int) (K:KS),(cutA K l).1.length≤l.length
 | [],_=>by simp[cutA]
 | x :: l,K=>by
  have:=Qxg n l (cutN K x);unfold cutA cutO;rw[List.length_append];split<;>simp only[List.length_cons,List.length_nil]<;>omega
theorem Qxh(a0:Int)(X:ByteArray)(hX:X.size≤1000000)(T:List Ck)(hT:∀c∈T,∃s f t:Nat,c=((s:Int),(f:Int),(t:Int))∧f≤t∧t<nOf a0∧s*nOf a0+t<X.size∧Free (Qwm (bytesOf X) (nOf a0) c))(hTl:T.length≤1000000) :
  ∀(d j k:Nat) (out:List S160),j+d=T.length→out.length+d≤1000000→5000000≤k→Qbt.l0 (k+d+1) a0 X out (T.map mkC) (T.length:Int) (j:Int)=some (out++((T.drop j).flatMap (fndC (bytesOf X) (nOf a0))).map toF)
 | 0,j,k,out,hd,ho,hk=>by
  unfold Qbt.l0;rw[if_neg (by omega),List.drop_of_length_le (by omega)];simp
 | d+1,j,k,out,hd,ho,hk=>by
  have hj:j<T.length:=by omega
  obtain⟨s,f,t,hc,h1,h2,h3,h4⟩:=hT T[j] (List.getElem_mem hj);have hr:Qjk (T.map mkC) (j:Int)=⟨(s:Int),(f:Int),(t:Int)⟩:=by
   unfold Qjk;rw[Int.toNat_natCast,List.getD_eq_getElem?_getD,List.getElem?_map,List.getElem?_eq_getElem hj,hc];rfl
  have hsn:s≤s*nOf a0:=Nat.le_mul_of_pos_right _ (by omega);rw[List.drop_eq_getElem_cons hj,List.flatMap_cons];unfold Qbt.l0;rw[if_pos (by omega),if_pos (by omega),if_pos (by rw[List.length_map];omega),hr];dsimp only;rw[Qxd,Qxe s (by omega),← Int.natCast_mul,Qxe (s*nOf a0) (by omega),← Int.natCast_add,Qxe (s*nOf a0+f) (by omega),← Int.natCast_add,Qxe (s*nOf a0+f+t) (by omega)];rw[show((s*nOf a0+f+t:Nat):Int)-(f:Int)=((s*nOf a0+t:Nat):Int)by omega,Qxe (s*nOf a0+t) (by omega),if_pos (by omega),if_pos (by omega),if_pos (by omega),Int.toNat_natCast,Int.toNat_natCast];have hb:bytesOf (X.extract (s*nOf a0+f) (s*nOf a0+t))=Qwm (bytesOf X) (nOf a0) T[j]:=by
   rw[Qna,hc];unfold Qwm;dsimp only;rw[Int.toNat_natCast,Int.toNat_natCast,show((t:Int)-(f:Int)).toNat=s*nOf a0+t-(s*nOf a0+f)by omega]
  have hz:(X.extract (s*nOf a0+f) (s*nOf a0+t)).size≤X.size:=by simp only[ByteArray.size_extract];omega
  obtain⟨r1,r2,r3,r4,r5,g1,g2,g3⟩:=Qwi (X.extract (s*nOf a0+f) (s*nOf a0+t)) (by omega) (by rw[hb];exact h4) (k+(d+1)) (by omega);rw[g1,Option.bind_some];dsimp only;rw[hb]at g2 g3;have hw:wrap64 (wrap64 ((t:Int)-(f:Int))+1)=(t:Int)-(f:Int)+1:=by unfold wrap64;omega
  have hfn:fndC (bytesOf X) (nOf a0) T[j]=fndO (recO (Qwm (bytesOf X) (nOf a0) T[j])) (s:Int) (f:Int) (t:Int):=by unfold fndC;rw[hc]
  rw[hfn]
  rcases Qwj g2 g3 with⟨e1,e2⟩ |⟨e1,e2⟩
  ·rw[if_pos e2,if_pos (by omega),Qot j (by omega),e1,hw];have:=Qxh a0 X hX T hT hTl d (j+1) k (out++[toF ⟨⟨r1,r2,r3,r4⟩,(s:Int),(f:Int),(t:Int)-(f:Int)+1⟩]) (by omega) (by simp only[List.length_append,List.length_singleton];omega) hk;rw[show k+(d+1)=k+d+1 by omega];refine Eq.trans this ?_;rw[List.append_assoc];rfl
  ·rw[if_neg e2,Qot j (by omega),e1,show k+(d+1)=k+d+1 by omega];exact Qxh a0 X hX T hT hTl d (j+1) k out (by omega) (by omega) hk
theorem Qxi(a0:Int)(X:ByteArray)(hX:X.size≤100000)(k:Nat)(hk:6000000≤k):Qbt.f k a0 X=some ((allF a0 (bytesOf X)).map toF):=by
 have hlen:=Qdi X;have hcc:=Qxg 0 (bytesOf X) (ksOf (nOf a0) 0 0 0);unfold Qbt.f;rw[all_is a0 X (by omega) k (by omega),Option.bind_some,List.length_map];have hT:=Qxf (bytesOf X) (nOf a0) (bytesOf X) [] [] 0 0 0 rfl (by omega) ⟨by unfold nOf;split<;>omega,by simp,by simp⟩ (by simp[Free]);rw[hlen]at hT;have h:=Qxh a0 X (by omega) _ hT (by omega) (cutA (ksOf (nOf a0) 0 0 0) (bytesOf X)).1.length 0 (k-(cutA (ksOf (nOf a0) 0 0 0) (bytesOf X)).1.length-1) [] (by omega) qq_20 (by omega);rw[show k-(cutA (ksOf (nOf a0) 0 0 0) (bytesOf X)).1.length-1+(cutA (ksOf (nOf a0) 0 0 0) (bytesOf X)).1.length+1=k by omega,List.drop_zero,List.nil_append]at h;exact h
theorem Qxj(x:List C.Fd)(hx:x.length≤1000000):∀(d j k:Nat),j+d=x.length→Qau.l0 (k+d+1) x (x.map toF) (x.length:Int) (j:Int)=some true
 | 0,j,k,hd=>by
  unfold Qau.l0;rw[if_neg (by omega)]
 | d+1,j,k,hd=>by
  have hj:j<x.length:=by omega
  have h1:Qjc x (j:Int)=x[j]:=by
   unfold Qjc;rw[Int.toNat_natCast,List.getD_eq_getElem?_getD,List.getElem?_eq_getElem hj];rfl
  have h2:Qjg (x.map toF) (j:Int)=toF x[j]:=by
   unfold Qjg;rw[Int.toNat_natCast,List.getD_eq_getElem?_getD,List.getElem?_map,List.getElem?_eq_getElem hj];rfl
  unfold Qau.l0;rw[if_pos (by omega),if_pos (by omega),if_pos (by omega),if_pos (by rw[List.length_map];omega),h1,h2];unfold toF;rw[if_neg (by simp),Qot j (by omega),show k+(d+1)=k+d+1 by omega];exact Qxj x hx d (j+1) k (by omega)
theorem same_is(x:List C.Fd)(hx:x.length≤1000000)(k:Nat)(hk:x.length+1≤k):Qau.f k x (x.map toF)=some true:=by
 unfold Qau.f;rw[if_pos (by rw[List.length_map])];have h:=Qxj x hx x.length 0 (k-x.length-1) (by omega);rw[show k-x.length-1+x.length+1=k by omega]at h;exact h
theorem Qxk(x:List C.Fd)(hx:x.length≤1000000):∀(d j k:Nat) (out:List Rec),j+d=x.length→out.length+d≤1000000→∃o,Qcp.l0 (k+d+1) out x (x.length:Int) (j:Int)=some o∧o.length=out.length+d
 | 0,j,k,out,hd,ho=>by
  unfold Qcp.l0;rw[if_neg (by omega)];exact⟨out,rfl,rfl⟩
 | d+1,j,k,out,hd,ho=>by
  unfold Qcp.l0;rw[if_pos (by omega),if_pos (by omega),if_pos (by omega),if_pos (by omega),Qot j (by omega),show k+(d+1)=k+d+1 by omega];obtain⟨o,h1,h2⟩:=Qxk x hx d (j+1) k (out++[(⟨(Qjc x (j:Int)).f0.f0,(Qjc x (j:Int)).f0.f1,(Qjc x (j:Int)).f0.f2,(Qjc x (j:Int)).f0.f3⟩:Rec)]) (by omega) (by simp only[List.length_append,List.length_singleton];omega);refine⟨o,h1,?_⟩;rw[h2,List.length_append,List.length_singleton];omega
theorem Qxl(x:List C.Fd)(hx:x.length≤1000000)(k:Nat)(hk:x.length+1≤k):∃o,Qcp.f k x=some o∧o.length=x.length:=by
 unfold Qcp.f;obtain⟨o,h1,h2⟩:=Qxk x hx x.length 0 (k-x.length-1) [] (by omega) qq_20;rw[show k-x.length-1+x.length+1=k by omega]at h1;exact⟨o,h1,by rw[h2];simp⟩
theorem Qxm(a0:Int)(l:List Int):(allF a0 l).length≤l.length:=by
 unfold allF;have h:∀T:List Ck,(T.flatMap (fndC l (nOf a0))).length≤T.length:=by
  intro T
  induction T with
  | nil=>simp
  | cons c T ih =>
   rw[List.flatMap_cons,List.length_append,List.length_cons];have:(fndC l (nOf a0) c).length≤1:=by unfold fndC fndO;split<;>simp
   omega
 exact Nat.le_trans (h _) (Qxg 0 l _)
def RunC(n:Nat)(L:List Int):Nat→List Ck→Prop
 | _,[]=>True
 | lo,c :: T=>∃s f t:Nat,c=((s:Int),(f:Int),(t:Int))∧lo≤s*n+f∧f≤t∧t<n∧s*n+t<L.length∧L[s*n+t]? = some 0∧RunC n L (s*n+t+1) T
theorem RunC.low{n:Nat}{L:List Int}{a b:Nat}{T:List Ck}(h:a≤b)(hT:RunC n L b T):RunC n L a T:=by
 cases T with
 | nil=>trivial
 | cons c T =>
  obtain⟨s,f,t,h1,h2,h3⟩:=hT;exact⟨s,f,t,h1,Nat.le_trans h h2,h3⟩
theorem Qxo(L:List Int)(n:Nat):∀(l pre:List Int) (sg at_ fr:Nat),L=pre++l→L.length≤1000000→fr≤at_→at_<n→pre.length=sg*n+at_→RunC n L (sg*n+fr) (cutA (ksOf n sg at_ fr) l).1
 | [],pre,sg,at_,fr,_,_,_,_,_=>by simp[cutA,RunC]
 | x :: l,pre,sg,at_,fr,hL,hLl,hp1,hp2,hlen=>by
  have hLlen:L.length=pre.length+(l.length+1):=by rw[hL,List.length_append,List.length_cons]
  have hsgn:sg≤sg*n:=Nat.le_mul_of_pos_right _ (by omega);have hnext:L=(pre++[x])++l:=by rw[hL];simp
  have hpl:(pre++[x]).length=sg*n+at_+1:=by rw[List.length_append];simp only[List.length_singleton];omega
  have hmul:(sg+1)*n=sg*n+n:=Nat.succ_mul _ _;rw[Qwy n sg at_ fr x l (by omega)]
  by_cases hx:x=0
  ·subst hx;rw[if_pos rfl,List.singleton_append];refine⟨sg,fr,at_,rfl,Nat.le_refl _,hp1,hp2,by omega,?_,?_⟩
   ·rw[hL,← hlen,List.getElem?_append_right (Nat.le_refl _)];simp
   ·rw[if_pos rfl]
    by_cases hw:at_+1=n
    ·rw[if_pos hw];exact RunC.low (by omega) (Qxo L n l (pre++[0]) (sg+1) 0 0 hnext hLl (Nat.le_refl _) (by omega) (by omega))
    ·rw[if_neg hw];exact RunC.low (by omega) (Qxo L n l (pre++[0]) sg (at_+1) (at_+1) hnext hLl (Nat.le_refl _) (by omega) (by omega))
  ·rw[if_neg hx,List.nil_append,if_neg hx]
   by_cases hw:at_+1=n
   ·rw[if_pos hw];exact RunC.low (by omega) (Qxo L n l (pre++[x]) (sg+1) 0 0 hnext hLl (Nat.le_refl _) (by omega) (by omega))
   ·rw[if_neg hw];exact Qxo L n l (pre++[x]) sg (at_+1) fr hnext hLl (by omega) (by omega) (by omega)
def Qxp:List Int→Nat
 | []=>0
 | x :: l=>(if x=0 then 1 else 0)+Qxp l
theorem Qxq:∀(l:List Int) (K:KS),(cutA K l).1.length=Qxp l
 | [],K=>by simp[cutA,Qxp]
 | x :: l,K=>by
  have:=Qxq l (cutN K x);unfold cutA cutO Qxp;rw[List.length_append];split<;>simp only[List.length_cons,List.length_nil]<;>omega
theorem Qxr{c:List Int}{r:Rec}(h:recO c=some r):okR r∧c++[0]=Qud r:=by
 unfold recO at h
 by_cases g:∃r,okR r∧c++[0]=Qud r
 ·rw[dif_pos g]at h;rw[← Option.some.inj h];exact g.choose_spec
 ·rw[dif_neg g]at h;exact absurd h (by simp)
def RunF(n:Nat)(L:List Int):Nat→List C.Fd→Prop
 | _,[]=>True
 | lo,x :: X=>∃s f m:Nat,x.f1=(s:Int)∧x.f2=(f:Int)∧x.f3=(m:Int)∧lo≤s*n+f∧f+m≤n∧s*n+f+m≤L.length∧okR x.f0∧(L.drop (s*n+f)).take m=Qud x.f0∧(Qud x.f0).length=m∧RunF n L (s*n+f+m) X
theorem RunF.low{n:Nat}{L:List Int}{a b:Nat}{X:List C.Fd}(h:a≤b)(hX:RunF n L b X):RunF n L a X:=by
 cases X with
 | nil=>trivial
 | cons x X =>
  obtain⟨s,f,m,h1,h2,h3,h4,h5⟩:=hX;exact⟨s,f,m,h1,h2,h3,Nat.le_trans h h4,h5⟩
theorem Qxs(n:Nat)(L:List Int):∀(T:List Ck) (lo:Nat),RunC n L lo T→RunF n L lo (T.flatMap (fndC L n))
 | [],lo,_=>by simp[RunF]
 | c :: T,lo,h=>by
  obtain⟨s,f,t,rfl,h1,h2,h3,h4,h5,h6⟩:=h;have ih:=Qxs n L T _ h6;rw[List.flatMap_cons];have hfn:fndC L n ((s:Int),(f:Int),(t:Int))=fndO (recO (Qwm L n ((s:Int),(f:Int),(t:Int)))) (s:Int) (f:Int) (t:Int):=rfl;rw[hfn]
  cases hr:recO (Qwm L n ((s:Int),(f:Int),(t:Int)))with
  | none =>
   unfold fndO;rw[List.nil_append];exact RunF.low (by omega) ih
  | some r =>
   obtain⟨g1,g2⟩:=Qxr hr;have hb:(L.drop (s*n+f)).take (t-f+1)=Qwm L n ((s:Int),(f:Int),(t:Int))++[0]:=by
    unfold Qwm;dsimp only;rw[Int.toNat_natCast,Int.toNat_natCast,show((t:Int)-(f:Int)).toNat=t-f by omega,List.take_add_one,List.getElem?_drop,show s*n+f+(t-f)=s*n+t by omega,h5];rfl
   have hl:(Qud r).length=t-f+1:=by
    rw[← g2,← hb,List.length_take,List.length_drop];omega
   unfold fndO;rw[List.singleton_append];exact⟨s,f,t-f+1,rfl,rfl,by dsimp only;omega,h1,by omega,by omega,g1,by rw[hb,g2],hl,RunF.low (by omega) ih⟩
theorem Qxt(a0:Int)(l:List Int)(hl:l.length≤1000000):RunF (nOf a0) l 0 (allF a0 l):=by
 unfold allF;have h:=Qxo l (nOf a0) l [] 0 0 0 rfl hl (Nat.le_refl _) (by unfold nOf;split<;>omega) (by simp);exact Qxs (nOf a0) l _ 0 (RunC.low (Nat.zero_le _) h)
theorem Qxu(a0:Int)(l:List Int):(allF a0 l).length≤Qxp l:=by
 rw[← Qxq l (ksOf (nOf a0) 0 0 0)];unfold allF;have h:∀T:List Ck,(T.flatMap (fndC l (nOf a0))).length≤T.length:=by
  intro T
  induction T with
  | nil=>simp
  | cons c T ih =>
   rw[List.flatMap_cons,List.length_append,List.length_cons];have:(fndC l (nOf a0) c).length≤1:=by unfold fndC fndO;split<;>simp
   omega
 exact h _
theorem Qxv:∀l:List Int,Qxp l≤l.length
 | []=>by simp[Qxp]
 | x :: l=>by
  have:=Qxv l;unfold Qxp;split<;>simp only[List.length_cons]<;>omega
end Go.Proofs.YtnnofopfbeklbaaGreat.CodecP
end
section
namespace Go.Proofs.YtnnofopfbeklbaaGreat.C
open Go.RowKit Go.Proofs.YtnnofopfbeklbaaGreatW.PrintWords Go.Proofs.YtnnofopfbeklbaaGreatW.PrintLast Go.Proofs.YtnnofopfbeklbaaGreatW.PrintMore
def Qar.f:Option Bool:=some true
theorem Qar.calls(r:Bool)(w:World)(h:Qar.f=some r) :
  Calls Tryz.prog 47 #[] w fun e w'=>e=.returned (.bool r)∧Below w.heap.size w w':=by
 obtain rfl:=Option.some.inj h;obtain⟨t,ht,hbt⟩:=CodecP.recordB;have hz:=QA (show t.size=15 by rw[← Qdi,hbt];rfl);have hS:∀(W:World) (A:Option Addr) (c:Nat),t.size≤c→Kd.C (Kd.int .u8) W A t.size (bytesOf t)→Calls Tryz.prog 48 #[.int .i64 64,.slice A t.size c] W fun e w'=>∃d,e=.returned d∧Kd.R k97 97 w' W.heap.size (fun _=>True) d [(⟨CodecP.rB,0,0,15⟩:S97)]∧Below W.heap.size W w':=fun W A c hc hC=>by
  have:=Qcq.calls 2000000 64 A c (bytesOf t) [(⟨CodecP.rB,0,0,15⟩:S97)] W;rw[Qdi]at this;exact this hC hc (by rw[hbt];exact CodecP.salvB)
 have hz0:(Qcq.f 2000000 64 []:Option (List S97))=some []:=CodecP.salv0;have hu:=Tryz.underlying39;have hu2:=Tryz.underlying97;have hb0:=Below.refl w.heap.size w;have kb:=fun W=>Qdk (P:=Tryz.prog) 9 52 5 Tryz.underlying9 Tryz.underlying52 Tryz.underlying5 t W
 go_enter Tryz.func47,Tryz.ntmps47
 go_upto_region 1 with(fail)
 go_cut [1] (fun v wc=>∃(ad:Addr) (c2:Nat),v=.slice (some ad) 1 c2∧Aside0 (Kd.C k97 wc (some ad) 1 [(⟨CodecP.rB,0,0,15⟩:S97)])∧Aside0 (Below w.heap.size w wc))
 case first =>
  go_wp2_with (first
   |(go_at_call 22;refine(Qbq.calls 400 false 1 ⟨#[97]⟩ ⟨#[]⟩ t _ ht).mono ?_;rintro e w1 ⟨rfl,hb1⟩)
   |(go_at_call 48;refine(hS _ _ _ (Go.grownCap_ge _ _ _ _) (Qlo _ t (by rw[hz.out];decide))).mono ?_;rintro e w2 ⟨v2,rfl,hR2,hb2⟩;obtain⟨A2,c2,e2⟩:=Kd.R_slice hR2;subst e2))
  go_meet
  case rel =>
   obtain⟨ad,ead,_⟩:=Qjd (Kd.R_reads' hR2).2.2 0 (by decide) (by decide);subst ead;have h1:=Qdm hb1 hb1.size 5 t;exact⟨ad,c2,rfl,⟨(Kd.R_reads' hR2).2.2⟩,⟨Qcz h1 h1.size hb2⟩⟩
 case rest =>
  obtain⟨ad,c2,rfl,HC,HB⟩:=hcut;obtain⟨ad',ead,g,j,a,k,l,b,m⟩:=Qjd HC.out 0 (by decide) (by decide);obtain rfl:=Option.some.inj ead;clear g j k l m ead;have e0:ad.add ((0:Int).toNat*7)=ad:=by first|rfl|simp[Addr.add]
  rw[e0]at a b;replace a:wc.cell? ⟨ad.block,ad.off+2,none⟩=some (.string ⟨#[97]⟩):=a;replace b:wc.cell? ⟨ad.block,ad.off+5,none⟩=some (.int .i64 0):=b;have HX2:=QA a;have HX5:=QA b;clear a b
  go_wp2_with (first
   |(go_at_call 32;refine(Qaq.calls true _ rfl).mono ?_;rintro e w3 ⟨rfl,hb3⟩;have HX23:=QA ((hb3.cell (World.block_lt_of_cell? _ _ HX2.out)).trans HX2.out);have HX53:=QA ((hb3.cell (World.block_lt_of_cell? _ _ HX5.out)).trans HX5.out))
   |(go_at_call 48;refine(Qcq.calls 2000000 64 none 0 [] [] _ (Kd.C_nil _ _) (Nat.le_refl _) hz0).mono ?_;rintro e w4 ⟨v4,rfl,hR4,hb4⟩;obtain⟨A4,c4,e4⟩:=Kd.R_slice hR4;subst e4;have n:=((hb4.cell (World.block_lt_of_cell? _ _ HX23.out)).trans HX23.out);have o:=((hb4.cell (World.block_lt_of_cell? _ _ HX53.out)).trans HX53.out)))
  go_ret
  have h3:=Qcz HB.out HB.out.size hb3;exact⟨rfl,Qcz h3 h3.size hb4⟩
end Go.Proofs.YtnnofopfbeklbaaGreat.C
end
