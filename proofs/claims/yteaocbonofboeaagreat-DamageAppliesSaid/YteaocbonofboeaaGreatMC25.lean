/- Merged texts. -/
import Derived.Test.YteaocbonofboeaaGreatMC24
import Derived.Test.YteaocbonofboeaaGreatMC14
import Derived.Test.YteaocbonofboeaaGreatMC19
import Derived.Test.YteaocbonofboeaaGreatMC20
import Derived.Test.YteaocbonofboeaaGreatMC18
import Derived.Test.YteaocbonofboeaaGreatMC02
import Derived.Test.YteaocbonofboeaaGreatMC12
import Derived.Test.YteaocbonofboeaaGreatMC21
import Derived.Test.YteaocbonofboeaaGreatMC15
import Derived.Test.YteaocbonofboeaaGreatMC13
set_option linter.unusedVariables false
set_option linter.unusedSimpArgs false
set_option maxHeartbeats 8000000
set_option maxRecDepth 100000
section
namespace Go.Proofs.YteaocbonofboeaaGreat.CodecP
open Go.RowKit Go.Proofs.YteaocbonofboeaaGreat.C Go.Proofs.YteaocbonofboeaaGreatW.PrintWords Go.Proofs.YteaocbonofboeaaGreatW.PrintLast Go.Proofs.YteaocbonofboeaaGreatW.PrintMore
theorem Quh(j:Nat)(x b:Int)(hj:j≤9)(d:0≤x)(hx:x<128^j)(hb0:0≤b)(hb:b<256)(h9:j=9→b≤1) :
  Go.bits .or .u64 x (shl .u64 (IntKind.u64.wrap (Go.bits .andNot .u8 b 128)) (7*(j:Int)))=x+128^j*(b%128):=by
 have e0:Go.bits .andNot .u8 b 128=b%128:=by
  have h:∀n:Fin 256,Go.bits .andNot .u8 ((n.val:Nat):Int) 128=((n.val:Nat):Int)%128:=by decide +kernel
  obtain⟨n,rfl⟩:=Int.eq_ofNat_of_zero_le hb0;exact h ⟨n,by omega⟩
 have hc:b%128<128∧0≤b%128∧(j=9→b%128≤1):=⟨by omega,by omega,fun h=>by have:=h9 h;omega⟩;rw[e0,IntWalk.u64_in _ (by omega)];generalize b%128=c at hc ⊢;obtain⟨hc1,hc0,hc9⟩:=hc;obtain⟨a,rfl⟩:=Int.eq_ofNat_of_zero_le d;obtain⟨c,rfl⟩:=Int.eq_ofNat_of_zero_le hc0;have hp:(128:Nat)^j=2^(7*j):=by rw[Nat.pow_mul]
 have ha:a<2^(7*j):=by
  rw[← hp]
  exact_mod_cast hx
 have hbig:c*2^(7*j)<2^64:=by
  by_cases h:j=9
  ·subst h;have:=hc9 rfl;have e:(2:Nat)^(7*9)=9223372036854775808:=by decide
   rw[e];omega
  ·have h1:c*2^(7*j)<2^7*2^(7*j):=Nat.mul_lt_mul_of_pos_right (by omega) (Nat.two_pow_pos _);have h2:(2:Nat)^7*2^(7*j)≤2^64:=by rw[← Nat.pow_add];exact Nat.pow_le_pow_right (by omega) (by omega)
   omega
 have ha2:a<2^64:=by
  have h2:(2:Nat)^(7*j)≤2^64:=Nat.pow_le_pow_right (by omega) (by omega);omega
 rw[show(7*(j:Int))=((7*j:Nat):Int)by push_cast;rfl];unfold shl;rw[show min ((7*j:Nat):Int).toNat IntKind.u64.bits=7*j by simp[IntKind.bits];omega,IntKind.wrap_u64];have e1:((c:Int)*2^(7*j))%18446744073709551616=((2^(7*j)*c:Nat):Int):=by
  have e2:((c:Int)*2^(7*j))=((c*2^(7*j):Nat):Int):=by push_cast;rfl
  rw[e2,Nat.mul_comm (2^(7*j)) c];omega
 rw[e1,bits_or_u64_nat _ _ (by omega) (by rw[Nat.mul_comm];omega),Nat.or_comm,← Nat.two_pow_add_eq_or_of_lt ha];have e3:((128:Int)^j*(c:Int))=((128^j*c:Nat):Int):=by push_cast;rfl
 rw[e3,hp];omega
theorem Qui{bs:List Int}{i:Nat}(h:i<bs.length):bs.drop i=rd bs (i:Int) :: bs.drop (i+1):=by rw[rd_get h];exact List.drop_eq_getElem_cons h
theorem Quj{bs:List Int}{i:Nat}{c:Int}{t:List Int}(h:bs.drop i=c :: t):i<bs.length∧rd bs (i:Int)=c∧bs.drop (i+1)=t:=by
 have hi:i<bs.length:=by
  rcases Nat.lt_or_ge i bs.length with h1|h1
  ·exact h1
  ·rw[List.drop_eq_nil_of_le h1]at h;cases h
 rw[Qui hi]at h
 cases h
 exact⟨hi,rfl,rfl⟩
theorem p128(j:Nat)(h:j≤8):(128:Int)^j≤72057594037927936:=by
 have k:∀j:Fin 9,(128:Int)^j.val≤72057594037927936:=by decide +kernel
 exact k ⟨j,by omega⟩
theorem Quk(j:Nat):0<(128:Int)^j:=Int.pow_pos (by decide)
theorem Qul(bs:List Int)(hb:Bytes bs):∀(n j i:Nat) (x r i1:Int),n+j=9→0≤x→x<128^j→Qpa bs (n+1) (j:Int) (i:Int) x=.ok (r,i1) →
  ∃y:Int,0≤y∧(0<j→y≠0)∧r=x+128^j*y∧r<18446744073709551616∧i1=((i+(vput n y).length:Nat):Int)∧bs.drop i=vput n y++bs.drop (i+(vput n y).length)
 | n, j,i,x,r,i1,hnj,hx0,hx1,h=>by
  have hpos:=Quk j;unfold Qpa at h
  by_cases hi:(i:Int)<(bs.length:Int)
  ·rw [if_pos hi]at h;have hd:=rd_range hb (show i<bs.length by omega);have hdrop:=Qui (show i<bs.length by omega)
   by_cases c1:(j:Int)=9∧1<rd bs (i:Int)
   ·rw[if_pos c1]at h;cases h
   ·rw [if_neg c1]at h;have h9:j=9→rd bs (i:Int)≤1:=fun hj=>by omega
    rw[Quh j x (rd bs (i:Int)) (by omega) hx0 hx1 hd.1 hd.2 h9]at h;generalize rd bs (i:Int)=b at *;have hm:(128:Int)^j*(b%128)≤128^j*127:=Int.mul_le_mul_of_nonneg_left (by omega) (by omega);have hm0:0≤(128:Int)^j*(b%128):=Int.mul_nonneg (by omega) (by omega)
    by_cases c2:128≤b
    ·rw[if_pos c2]at h
     cases n with
     | zero=>have:=h9 (by omega);omega
     | succ n =>
      have h':Qpa bs (n+1) ((j+1:Nat):Int) ((i+1:Nat):Int) (x+128^j*(b%128))=.ok (r,i1):=by push_cast;exact h
      have hp:(128:Int)^(j+1)=128^j*128:=Int.pow_succ ..;obtain⟨y,a,hyn,hr,hr1,hi1,hdr⟩:=Qul bs hb n (j+1) (i+1) _ r i1 (by omega) (by omega) (by rw[hp];omega) h';have hy:=hyn (by omega);have hv:vput (n+1) (b%128+128*y)=b :: vput n y:=by
       rw[vput,if_neg (by omega),show(b%128+128*y)%128+128=b by omega,show(b%128+128*y)/128=y by omega]
      refine⟨b%128+128*y,by omega,fun _=>by omega,?_,hr1,?_,?_⟩
      ·rw[hr,hp,Int.mul_add,← Int.mul_assoc];omega
      ·rw[hv,hi1,List.length_cons];congr 1;omega
      ·rw[hv,hdrop,hdr,List.length_cons,List.cons_append,show i+1+(vput n y).length=i+((vput n y).length+1)by omega]
    ·rw[if_neg c2]at h
     by_cases c3:b=0∧(0:Int)<(j:Int)
     ·rw[if_pos c3]at h;cases h
     ·rw[if_neg c3]at h
      cases h
      have e:b%128=b:=by omega
      have hv:vput n b=[b]:=by
       cases n with
       | zero=>rfl
       | succ n=>rw[vput,if_pos (by omega)]
      refine⟨b,hd.1,fun hj hb0=>c3 ⟨hb0,by omega⟩,by rw[e],?_,by rw[hv];rfl,by rw[hv,hdrop];rfl⟩
      by_cases hj:j=9
      ·subst hj;have:=h9 rfl;have e9:(128:Int)^9=9223372036854775808:=by decide
       rw[e,e9];rw[e9]at hx1;omega
      ·have:=p128 j (by omega);omega
  ·rw[if_neg hi]at h;cases h
theorem Qum(bs:List Int)(hb:Bytes bs):∀(n j i:Nat) (x y:Int) (t:List Int),n+j=9→0≤x→x<128^j→0≤y→(0<j→y≠0)→x+128^j*y<18446744073709551616→bs.drop i=vput n y++t →
  Qpa bs (n+1) (j:Int) (i:Int) x=.ok (x+128^j*y,((i+(vput n y).length:Nat):Int))
 | n,j,i,x,y,t,hnj,hx0,hx1,hy0,hyn,hlt,h=>by
  have hpos:=Quk j;have h9:j=9→y≤1:=fun hj=>by
   subst hj;have e9:(128:Int)^9=9223372036854775808:=by decide
   rw[e9]at hlt;omega
  by_cases hs:y<128
  ·have hv:vput n y=[y]:=by
    cases n with
    | zero=>rfl
    | succ n=>rw[vput,if_pos hs]
   rw[hv]at h ⊢;obtain⟨hi,hr,_⟩:=Quj h;unfold Qpa;rw[if_pos (by omega),hr,if_neg (fun c=>by have:=h9 (by omega);omega),if_neg (by omega),if_neg (fun c=>hyn (by omega) c.1),Quh j x y (by omega) hx0 hx1 hy0 (by omega) h9,show y%128=y by omega];rfl
  ·cases n with
   | zero=>have:=h9 (by omega);omega
   | succ n =>
    have hv:vput (n+1) y=(y%128+128) :: vput n (y/128):=by rw[vput,if_neg hs]
    rw[hv]at h ⊢;obtain⟨hi,hr,ht⟩:=Quj h;have hp:(128:Int)^(j+1)=128^j*128:=Int.pow_succ ..;have hm:(128:Int)^j*(y%128)≤128^j*127:=Int.mul_le_mul_of_nonneg_left (by omega) (by omega);have hm0:0≤(128:Int)^j*(y%128):=Int.mul_nonneg (by omega) (by omega);have hsplit:x+128^j*(y%128)+128^(j+1)*(y/128)=x+128^j*y:=by
     have e:y=y%128+128*(y/128):=by omega
     have e2:(128:Int)^j*y=128^j*(y%128)+128^j*(128*(y/128)):=by rw[← Int.mul_add,← e]
     rw[e2,hp,Int.mul_assoc];omega
    have ih:=Qum bs hb n (j+1) (i+1) (x+128^j*(y%128)) (y/128) t (by omega) (by omega) (by rw[hp];omega) (by omega) (fun _=>by omega) (by rw[hsplit];exact hlt) ht;unfold Qpa;rw[if_pos (by omega),hr,if_neg (fun c=>by omega),if_pos (by omega),Quh j x (y%128+128) (by omega) hx0 hx1 (by omega) (by omega) (fun hj=>by omega),show(y%128+128)%128=y%128 by omega];rw[hsplit]at ih
    push_cast at ih
    rw[ih,List.length_cons]
    congr 2
    push_cast
    omega
theorem Qun{bs:List Int}(hb:Bytes bs){i:Nat}{n i1:Int}(h:Qpa bs 10 0 (i:Int) 0=.ok (n,i1)):∃m:Nat,i1=(m:Int)∧0≤n∧n<18446744073709551616∧bs.drop i=vput 9 n++bs.drop m∧m=i+(vput 9 n).length:=by
 obtain⟨y,h0,_,h2,h3,h4,h5⟩:=Qul bs hb 9 0 i 0 n i1 rfl (Int.le_refl _) (by decide) h;obtain rfl:n=y:=by rw[h2];simp
 exact⟨_,h4,h0,h3,h5,rfl⟩
theorem Quo{bs:List Int}(hb:Bytes bs){i:Nat}{n:Int}{t:List Int}(h0:0≤n)(h1:n<18446744073709551616)(h:bs.drop i=vput 9 n++t):Qpa bs 10 0 (i:Int) 0=.ok (n,((i+(vput 9 n).length:Nat):Int)):=by
 have:=Qum bs hb 9 0 i 0 n t rfl (Int.le_refl _) (by decide) h0 (fun h=>by omega) (by simpa using h1) h
 simpa using this
theorem Qup{bs:List Int}(hb:Bytes bs){i:Nat}{least most i2:Int}{xs:List Int}(hl:0≤least)(h:Qpd bs least most (i:Int)=.ok (xs,i2)) :
  ∃m:Nat,i2=(m:Int)∧least≤(xs.length:Int)∧(xs.length:Int)≤most∧bs.drop i=vput 9 (xs.length:Int)++(xs++bs.drop m)∧Bytes xs:=by
 unfold Qpd at h
 cases hv:Qpa bs 10 0 (i:Int) 0 with
 | error p=>rw[hv]at h;cases h
 | ok p =>
  obtain⟨n,i1⟩:=p;obtain⟨m,rfl,h0,h1,hd,hm⟩:=Qun hb hv;rw[hv]at h;dsimp only at h;split at h
  ·cases h
  ·rename_i c1;split at h
   ·cases h
   ·rename_i c2;split at h
    ·rename_i c3
     cases h
     have hlen:((bs.drop ((m:Int)).toNat).take n.toNat).length=n.toNat:=by rw[List.length_take,List.length_drop];omega
     refine⟨m+n.toNat,by omega,by rw[hlen];omega,by rw[hlen];omega,?_,(hb.drop _).take _⟩;rw[hlen,hd,show((n.toNat:Nat):Int)=n by omega,Int.toNat_natCast,← List.drop_drop,List.take_append_drop]
    ·cases h
theorem Quq:∀(n:Nat) (x:Int),0<(vput n x).length
 | 0,_=>by simp[vput]
 | n+1,x=>by
  unfold vput;split<;>simp
theorem Qur{bs:List Int}(hb:Bytes bs){i:Nat}{least most:Int}{xs t:List Int}(h0:least≤(xs.length:Int))(h1:(xs.length:Int)≤most)(hm:most<18446744073709551616)(h:bs.drop i=vput 9 (xs.length:Int)++(xs++t)) :
  Qpd bs least most (i:Int)=.ok (xs,((i+(vput 9 (xs.length:Int)).length+xs.length:Nat):Int)):=by
 have hv:=Quo hb (Int.natCast_nonneg _) (by omega) h;have hd:bs.drop (i+(vput 9 (xs.length:Int)).length)=xs++t:=by rw[← List.drop_drop,h,List.drop_left]
 have hlen:i+(vput 9 (xs.length:Int)).length+xs.length≤bs.length∨xs=[]:=by
  have:=congrArg List.length hd;rw[List.length_drop,List.length_append]at this
  rcases xs with _ |⟨x,xs⟩
  ·exact Or.inr rfl
  ·exact Or.inl (by simp only[List.length_cons]at this ⊢;omega)
 have hle:i+(vput 9 (xs.length:Int)).length≤bs.length:=by
  have:=congrArg List.length h;rw[List.length_drop,List.length_append]at this;have hne:=Quq 9 (xs.length:Int);omega
 unfold Qpd;rw[hv];dsimp only;have hle2:i+(vput 9 (xs.length:Int)).length+xs.length≤bs.length:=by
  rcases hlen with h|h
  ·exact h
  ·rw[h]at hle ⊢;simpa using hle
 rw[if_neg (by omega),if_neg (by omega),if_pos (by push_cast;omega),Int.toNat_natCast,Int.toNat_natCast,hd,List.take_left]
 congr 1
theorem Qus {bs:List Int} (hb:Bytes bs) {d:Bool} {q i:Int} {a b:ByteArray} (h:recL bs=.ok ((d,q,a,b),i)):bs=Qlg d q a b∧chk d a b=0∧0≤q∧q<18446744073709551616:=by
 unfold recL at h
 by_cases h0:(0:Int)<(bs.length:Int)
 ·rw [if_pos h0]at h;have hdrop:bs=rd bs 0 :: bs.drop 1:=Qui (i:=0) (by omega);have hnum:∀ {xs:List Int},Bytes xs→(strOfNums xs).size=xs.length:=fun hx=>by rw[Qne,bytesOf_nums hx]
  generalize hr:rd bs 0=k at *
  by_cases hk:k≠2∧k≠3
  ·rw[if_pos hk]at h;cases h
  ·rw [if_neg hk]at h
   cases hv:Qpa bs 10 0 (0+1) 0 with
   | error p=>rw[hv]at h;cases h
   | ok p =>
    obtain⟨q',i2⟩:=p;obtain⟨m2,rfl,hq0,hq1,hd2,_⟩:=Qun (i:=1) hb hv;rw[hv]at h;dsimp only at h
    cases ht:Qpd bs 1 4096 (m2:Int)with
    | error p=>rw[ht]at h;cases h
    | ok p =>
     obtain⟨xs,i3⟩:=p;obtain⟨m3,rfl,c,g,hd3,hbx⟩:=Qup hb (by decide) ht;rw[ht]at h;dsimp only at h;have hsx:=hnum hbx;have hkey:¬(strOfNums xs).toList=([]:List UInt8):=fun e=>by
      have:=(Qre _).1 e;omega
     by_cases hk3:k=3
     ·rw[if_pos hk3]at h
      by_cases hend:(0:Int)<(bs.length:Int)-(m3:Int)
      ·rw[if_pos hend]at h;cases h
      ·rw[if_neg hend]at h
       cases h
       refine⟨?_,?_,hq0,hq1⟩
       ·unfold Qlg;rw[if_pos rfl,if_pos rfl,hsx,bytesOf_nums hbx]
        conv=>lhs;rw[hdrop,hd2,hd3,List.drop_eq_nil_of_le (show bs.length≤m3 by omega),hk3]
        simp
       ·unfold chk;rw[if_neg hkey,if_neg (by rw[hsx];omega),(Qre (⟨#[]⟩:ByteArray)).2 rfl,if_neg (by decide),if_neg (by decide)]
     ·rw [if_neg hk3]at h;obtain rfl:k=2:=by omega
      cases hu:Qpd bs 0 1048576 (m3:Int)with
      | error p=>rw[hu]at h;cases h
      | ok p =>
       obtain⟨ys,i4⟩:=p;obtain⟨m4,rfl,j,l,hd4,hby⟩:=Qup hb (by decide) hu;rw[hu]at h;dsimp only at h;have hsy:=hnum hby
       by_cases hend:(0:Int)<(bs.length:Int)-(m4:Int)
       ·rw[if_pos hend]at h;cases h
       ·rw[if_neg hend]at h
        cases h
        refine⟨?_,?_,hq0,hq1⟩
        ·unfold Qlg;rw[if_neg (by decide),if_neg (by decide),hsx,hsy,bytesOf_nums hbx,bytesOf_nums hby]
         conv=>lhs;rw[hdrop,hd2,hd3,hd4,List.drop_eq_nil_of_le (show bs.length≤m4 by omega)]
         simp
        ·unfold chk;rw[if_neg hkey,if_neg (by rw[hsx];omega),if_neg (by simp),if_neg (by rw[hsy];omega)]
 ·rw[if_neg h0]at h;cases h
theorem Qut{d:Bool}{q:Int}{a b:ByteArray}(h0:0≤q)(h1:q<18446744073709551616)(hc:chk d a b=0):∃i,recL (Qlg d q a b)=.ok ((d,q,a,b),i):=by
 have hca:(0:Int)<a.size∧(a.size:Int)≤4096∧(b.size:Int)≤1048576:=by
  unfold chk at hc;split at hc
  ·cases hc
  ·rename_i c1;rw[Qre]at c1;split at hc
   ·cases hc
   ·split at hc
    ·cases hc
    ·split at hc
     ·cases hc
     ·omega
 have hb:Bytes (Qlg d q a b):=Que d q a b h0 h1 (by omega) (by omega);have hle:(Qlg d q a b)≠[]:=by unfold Qlg;simp
 have hpos:(0:Int)<((Qlg d q a b).length:Int):=by
  have:=List.length_pos_iff.2 hle;omega
 generalize hB:Qlg d q a b=bs at *;have hbody:=hB;unfold Qlg at hbody;have hd0:bs.drop 0=(if d then(3:Int)else 2) :: (vput 9 q++((vput 9 a.size++bytesOf a)++(if d then []else vput 9 b.size++bytesOf b))):=by
  rw[List.drop_zero,← hbody];simp
 obtain⟨_,hr,hd1⟩:=Quj hd0;have hv:=Quo hb h0 h1 hd1;have hd2:bs.drop (1+(vput 9 q).length)=vput 9 (((bytesOf a).length:Nat):Int)++(bytesOf a++(if d then []else vput 9 b.size++bytesOf b)):=by
  rw[← List.drop_drop,hd1,List.drop_left,Qne,List.append_assoc]
 have hla:((bytesOf a).length:Int)=a.size:=by rw[Qne]
 have hlb:((bytesOf b).length:Int)=b.size:=by rw[Qne]
 have ht:=Qur hb (least:=1) (most:=4096) (by omega) (by omega) (by decide) hd2;have hd3:bs.drop (1+(vput 9 q).length+(vput 9 (((bytesOf a).length:Nat):Int)).length+(bytesOf a).length)=(if d then []else vput 9 b.size++bytesOf b):=by
  rw[← List.drop_drop,← List.drop_drop,hd2,List.drop_left,List.drop_left]
 generalize 1+(vput 9 q).length=m2 at *;generalize m2+(vput 9 (((bytesOf a).length:Nat):Int)).length+(bytesOf a).length=m3 at *;have hv':Qpa bs 10 0 (0+1) 0=.ok (q,(m2:Int)):=by simpa using hv
 cases d with
 | true =>
  have hr':rd bs 0=3:=hr;have hd3':bs.drop m3=[]:=hd3;have hlen:=congrArg List.length hd3';rw[List.length_drop,List.length_nil]at hlen;obtain rfl:b=ByteArray.empty:=Quf hc;unfold recL;rw[if_pos hpos,hr',if_neg (by decide),hv'];dsimp only;rw[ht];dsimp only;rw[Qqv,if_pos rfl,if_neg (by omega)];exact⟨_,rfl⟩
 | false =>
  have hr':rd bs 0=2:=hr;have hd3':bs.drop m3=vput 9 (((bytesOf b).length:Nat):Int)++(bytesOf b++[]):=by rw[hd3,hlb];simp
  have hu:=Qur hb (least:=0) (most:=1048576) (by omega) (by omega) (by decide) hd3';have hlen:=congrArg List.length hd3';rw[List.length_drop,List.length_append,List.length_append,List.length_nil]at hlen;unfold recL;rw[if_pos hpos,hr',if_neg (by decide),hv'];dsimp only;rw[ht];dsimp only;rw[Qqv,if_neg (by decide),hu];dsimp only;rw[Qqv,if_neg (by push_cast;omega)];exact⟨_,rfl⟩
theorem Quv:Bytes []:=fun x hx=>nomatch hx
def unsF:Nat→List Int→Option (List Int)
 | _,[]=>some []
 | 0,_ :: _=>none
 | k+1,c :: t=>if t.length+1<c.toNat then none else(unsF k (t.drop (c.toNat-1))).map (fun d=>t.take (c.toNat-1)++(if c<255∧t.drop (c.toNat-1)≠[]then 0 :: d else d))
theorem Quw(k:Nat):unsF k []=some []:=by cases k<;>rfl
theorem Qux:∀(n:Nat) (b:List Int) (k:Nat),b.length≤n→Bytes b→(Qkm b).length≤k→unsF k (Qkm b)=some b
 | n,b,k,hn,hb,hk=>by
  rcases Qtz hb with⟨a,r,rfl,hf,hl,e⟩ |⟨a,r,rfl,hf,hl,hr,e⟩ |⟨hf,hl,e⟩
  ·rw[List.length_append,List.length_cons]at hn;rw[e,List.length_cons,List.length_append]at hk
   match n,k,hn,hk with
   | n+1,k+1,hn,hk =>
    have ih:=Qux n r k (by omega) hb.right.tail (by omega);have hs:=Qua _ r (Nat.le_refl _) hb.right.tail;have hc:((a.length:Int)+1).toNat-1=a.length:=by omega
    rw[e,unsF,hc,List.take_left' rfl,List.drop_left' rfl,if_neg (by rw[List.length_append];omega),ih,Option.map_some,if_pos ⟨by omega,hs.2.2⟩]
  ·rw[List.length_append]at hn;rw[e,List.length_cons,List.length_append]at hk
   match n,k,hn,hk with
   | 0,k,hn,hk=>omega
   | n+1,k+1,hn,hk =>
    have ih:=Qux n r k (by omega) hb.right (by omega);have hc:(255:Int).toNat-1=a.length:=by omega
    rw[e,unsF,hc,List.take_left' rfl,List.drop_left' rfl,if_neg (by rw[List.length_append];omega),ih,Option.map_some,if_neg (fun h=>by omega)]
  ·rw[e,List.length_cons]at hk;obtain⟨k,rfl⟩:∃m,k=m+1:=⟨k-1,by omega⟩;have hc:((b.length:Int)+1).toNat-1=b.length:=by omega
   rw[e,unsF,hc,List.take_of_length_le (Nat.le_refl _),List.drop_of_length_le (Nat.le_refl _),if_neg (by omega),Quw,Option.map_some,if_neg (fun h=>h.2 rfl),List.append_nil]
def unsR(acc rest c:List Int)(j:Nat):List Int × Int:=match unsF j rest with
 | none=>([],2)
 | some d=>if Qkm (acc++d)=c then(acc++d,0)else([],4)
theorem Quy(c:List Int)(hc:Bytes c)(hcl:c.length≤1000000000):∀(j k:Nat) (acc rest:List Int),rest.length≤j→Bytes rest→Free rest→Bytes acc→acc.length+rest.length≤c.length→j+2≤k→Qan.l0 k c acc rest=some (unsR acc rest c j)
 | j,k+1,acc,[],hj,hb,hf,ha,hl,hk=>by
  have hs:=Qua _ acc (Nat.le_refl _) ha;unfold Qan.l0 unsR;rw[Quw];dsimp only;rw[if_neg (by simp),List.append_nil];unfold Qam.f;rw[if_pos (by simp at hl;omega),Option.bind_some];unfold Qae.f;rw[Option.bind_some]
  by_cases he:Qkm acc=c
  ·rw[if_pos he,if_pos (by rw[he];exact beq_self_eq_true _)]
  ·rw[if_neg he,if_neg (by
    intro h;exact he ((Quu hs.2.1 hc).1 (beq_iff_eq.1 h)))]
 | j + 1,k+1,acc,x :: t,hj,hb,hf,ha,hl,hk=>by
  have hx:=hb x (List.mem_cons_self ..);have b:=hf x (List.mem_cons_self ..);have hw:wrap64 x=x:=by unfold wrap64;omega
  have hrd:rd (x :: t) 0=x:=rfl;obtain⟨m,hm⟩:∃m:Nat,x=(m:Int)+1:=⟨x.toNat-1,by omega⟩;have hxt:x.toNat=m+1:=by omega
  unfold Qan.l0;rw[hrd,hw,if_pos (by simp only[List.length_cons];omega),if_pos (by simp only[List.length_cons];omega)]
  by_cases hsh:t.length<m
  ·rw[if_pos (by simp only[List.length_cons];omega)];unfold unsR;rw[unsF,hxt,if_pos (by omega)]
  ·have e1:((x :: t).take (m+1)).drop 1=t.take m:=by simp
   have e2:(x :: t).drop (m+1)=t.drop m:=by simp
   have hlt:(t.take m).length=m:=by rw[List.length_take];omega
   simp only[List.length_cons]at hj hl;have hba:Bytes (acc++t.take m):=ha.app (hb.tail.take m);have hbt:Bytes (t.drop m):=hb.tail.drop m;have hft:Free (t.drop m):=fun y hy=>hf y (List.mem_cons_of_mem _ (List.mem_of_mem_drop hy))
   have hdl:(t.drop m).length=t.length-m:=List.length_drop;rw[if_neg (by simp only[List.length_cons];omega),if_pos (by omega),if_pos (by simp only[List.length_cons];omega),hxt,e1,e2,Option.bind_some,hlt,if_pos (by omega),Option.bind_some,if_pos (by omega),Option.bind_some];have hu:∀(z:List Int) (hz:z=if x<255∧t.drop m≠[]then [0]else []),unsR acc (x :: t) c (j+1)=unsR (acc++t.take m++z) (t.drop m) c j:=by
    intro z hz;unfold unsR;rw[unsF,hxt,if_neg (by omega),Nat.add_sub_cancel]
    cases unsF j (t.drop m)with
    | none=>rfl
    | some d =>
     simp only[Option.map_some];have:acc++(t.take m++(if x<255∧t.drop m≠[]then 0 :: d else d))=acc++t.take m++z++d:=by
      rw[hz]
      by_cases h:x<255∧t.drop m≠[]
      ·rw[if_pos h,if_pos h];simp
      ·rw[if_neg h,if_neg h];simp
     rw[this]
   by_cases a:x≤254
   ·rw[if_pos a]
    by_cases hne:t.drop m=[]
    ·rw[if_neg (by rw[hne];simp),Quy c hc hcl j k _ _ (by omega) hbt hft hba (by rw[List.length_append,hlt,hdl];omega) (by omega),hu [] (by rw[if_neg (fun h=>h.2 hne)]),List.append_nil]
    ·have hpos:0<(t.drop m).length:=List.length_pos_iff.2 hne;rw[if_pos (by omega),if_pos (by rw[List.length_append,hlt];omega),Quy c hc hcl j k _ _ (by omega) hbt hft (hba.app (fun y hy=>by rw[List.mem_singleton.1 hy];omega)) (by rw[List.length_append,List.length_append,hlt,hdl,List.length_singleton];omega) (by omega),hu [0] (by rw[if_pos ⟨by omega,hne⟩])]
   ·rw[if_neg a,Quy c hc hcl j k _ _ (by omega) hbt hft hba (by rw[List.length_append,hlt,hdl];omega) (by omega),hu [] (by rw[if_neg (fun h=>by omega)]),List.append_nil]
theorem Quz{c:List Int}(hc:Bytes c)(hf:Free c)(hcl:c.length≤1000000000)(k:Nat)(hk:c.length+5≤k):Qan.f k c=some (if c=[]then([],2)else unsR [] c c c.length):=by
 unfold Qan.f Qaf.f;rw[Option.bind_some,Qqx hc hf,if_neg (by decide)]
 by_cases h:c=[]
 ·rw[if_pos h,if_pos (by rw[h];rfl)]
 ·rw[if_neg h,if_neg (fun e=>h (List.length_eq_zero_iff.1 (by omega)))];exact Quy c hc hcl c.length k [] c (Nat.le_refl _) hc hf (fun x hx=>by cases hx) (by simp) (by omega)
theorem Qva{c:List Int}{out:List Int}{e:Int}(h:unsR [] c c c.length=(out,e)):e=0→Qkm out=c:=by
 intro he;unfold unsR at h
 cases hu:unsF c.length c with
 | none=>rw[hu]at h;cases h;cases he
 | some d =>
  rw[hu]at h;dsimp only at h
  by_cases hs:Qkm ([]++d)=c
  ·rw[if_pos hs]at h
   cases h
   exact hs
  ·rw[if_neg hs]at h
   cases h
   cases he
theorem Qvb:∀(j:Nat) (rest d:List Int),Bytes rest→unsF j rest=some d→Bytes d∧d.length≤rest.length
 | j,[],d,hb,h=>by rw[Quw]at h;cases h;exact⟨Quv,Nat.le_refl _⟩
 | 0,_ :: _,d,hb,h=>by cases h
 | j+1,x :: t,d,hb,h=>by
  rw[unsF]at h;split at h
  ·cases h
  ·obtain⟨d2,h2,rfl⟩:=Option.map_eq_some_iff.1 h;obtain⟨h3,h4⟩:=Qvb j _ d2 (hb.tail.drop _) h2;rw[List.length_drop]at h4;rename_i hle;have hx:=hb x (List.mem_cons_self ..);split
   ·refine⟨(hb.tail.take _).app (h3.cons ⟨by decide,by decide⟩),?_⟩;rename_i hc;have:0<(t.drop (x.toNat-1)).length:=List.length_pos_iff.2 hc.2;rw[List.length_drop]at this;rw[List.length_append,List.length_take,List.length_cons,List.length_cons];omega
   ·refine⟨(hb.tail.take _).app h3,?_⟩;rw[List.length_append,List.length_take,List.length_cons];omega
theorem Qvc{c:List Int}(hc:Bytes c){out:List Int}{e:Int}(h:unsR [] c c c.length=(out,e)):Bytes out∧out.length≤c.length:=by
 unfold unsR at h
 cases hu:unsF c.length c with
 | none=>rw[hu]at h;cases h;exact⟨Quv,Nat.zero_le _⟩
 | some d =>
  rw[hu]at h;dsimp only at h;split at h
  ·cases h;exact Qvb _ _ _ hc hu
  ·cases h;exact⟨Quv,Nat.zero_le _⟩
theorem Qvd{b:List Int}(hb:Bytes b):unsR [] (Qkm b) (Qkm b) (Qkm b).length=(b,0):=by
 unfold unsR;rw[Qux _ b _ (Nat.le_refl _) hb (Nat.le_refl _)];dsimp only;rw[List.nil_append,if_pos rfl]
theorem Qve:∀(l:List Int),Bytes l→leb (leI l) l.length=l
 | [],_=>rfl
 | b :: l,h=>by
  have hb:=h b (List.mem_cons_self ..);have hr:=(Qna h.tail).1;simp only[List.length_cons,leb,leI];rw[show(b+256*leI l)%256=b by omega,show(b+256*leI l)/256=leI l by omega,Qve l h.tail]
theorem Qvf:∀(n:Nat) (x:Int),0≤x→x<256^n→leI (leb x n)=x
 | 0,x,h0,h1=>by simp at h1;simp[leb,leI];omega
 | n+1,x,h0,h1=>by
  rw[Int.pow_succ]at h1;simp only[leb,leI];rw[Qvf n (x/256) (by omega) (by omega)];omega
theorem hashP_r(b:List Int):R64 (Qlz 0 b):=by
 unfold Qlz sumP;split<;>(unfold finP;exact Qnn _ _ _)
theorem Qvg{c:List Int}(hc:Bytes c)(hf:Free c)(hcl:c.length≤1000000000)(k:Nat)(hk:c.length+5≤k) :
  ∃out e,Qbr.f k c=some (out,e)∧(e=0→Bytes out∧out.length≤c.length∧c++[0]=Qql out)∧(∀b,Bytes b→c++[0]=Qql b→e=0∧out=b):=by
 have hsb:∀b,Bytes b→c++[0]=Qql b→c=Qkm (b++leb (Qlz 0 b) 8):=fun b hb h=>by
  unfold Qql at h;exact List.append_cancel_right h
 have hbl:∀b,Bytes b→Bytes (b++leb (Qlz 0 b) 8):=fun b hb=>hb.app (Qub 8 _)
 unfold Qbr.f;rw[Quz hc hf hcl k hk,Option.bind_some]
 by_cases h0:c=[]
 ·rw[if_pos h0,if_neg (by decide)];refine⟨[],2,rfl,fun h=>absurd h (by decide),fun b hb h=>?_⟩;have h1:=hsb b hb h;rw[h0]at h1;exact absurd h1.symm (Qua _ _ (Nat.le_refl _) (hbl b hb)).2.2
 ·rw [if_neg h0];obtain⟨o,e0,ho⟩:∃o e0,unsR [] c c c.length=(o,e0):=⟨_,_,rfl⟩;rw[ho];obtain⟨hbo,hlo⟩:=Qvc hc ho;have hun:∀b,Bytes b→c++[0]=Qql b→e0=0∧o=b++leb (Qlz 0 b) 8:=fun b hb h=>by
   have h1:=hsb b hb h;have h2:=Qvd (hbl b hb);rw[← h1,ho]at h2
   cases h2
   exact⟨rfl,rfl⟩
  dsimp only
  by_cases he:e0=0
  ·rw [if_pos he,if_pos ⟨hbo,by omega⟩];have hst:=Qva ho he;unfold openS
   by_cases h8:o.length<8
   ·rw[if_pos h8];refine⟨[],2,rfl,fun h=>absurd h (by decide),fun b hb h=>?_⟩;have h2:=(hun b hb h).2;rw[h2,List.length_append,Qjj]at h8;omega
   ·rw[if_neg h8];have hdl:(o.drop (o.length-8)).length=8:=by rw[List.length_drop];omega
    by_cases hh:leI (o.drop (o.length-8))=Qlz 0 (o.take (o.length-8))
    ·rw[if_pos hh];refine⟨_,0,rfl,fun _=>⟨hbo.take _,by rw[List.length_take];omega,?_⟩,fun b hb h=>⟨rfl,?_⟩⟩
     ·unfold Qql;rw[← hh];have h3:=Qve (o.drop (o.length-8)) (hbo.drop _);rw[hdl]at h3;rw[h3,List.take_append_drop,hst]
     ·have h2:=(hun b hb h).2;rw[h2,List.length_append,Qjj,Nat.add_sub_cancel,List.take_left' rfl]
    ·rw[if_neg hh];refine⟨[],5,rfl,fun h=>absurd h (by decide),fun b hb h=>?_⟩;have h2:=(hun b hb h).2
     exfalso
     apply hh;have hr:=hashP_r b;rw[h2,List.length_append,Qjj,Nat.add_sub_cancel,List.take_left' rfl,List.drop_left' rfl,Qvf 8 _ hr.1 (by have:=hr.2;simpa using this)]
  ·rw[if_neg he];exact⟨[],e0,rfl,fun h=>absurd h he,fun b hb h=>absurd (hun b hb h).1 he⟩
theorem Qvh{c:List Int}(hc:Bytes c)(hf:Free c)(hcl:c.length≤1000000000)(k:Nat)(hk:c.length+5≤k) :
  ∃r1 r2 r3 r4 r5,Qbq.f k c=some (r1,r2,r3,r4,r5)∧(r5=0→okR (⟨r1,r2,r3,r4⟩:Rec)∧c++[0]=Qtx (⟨r1,r2,r3,r4⟩:Rec))∧(∀r',okR r'→c++[0]=Qtx r'→r5=0∧(⟨r1,r2,r3,r4⟩:Rec)=r'):=by
 obtain⟨out,e,ho,h1,h2⟩:=Qvg hc hf hcl k hk;unfold Qbq.f;rw[ho,Option.bind_some];dsimp only
 by_cases he:e=0
 ·obtain⟨hbo,hlo,hso⟩:=h1 he;rw[if_pos he];unfold Qch.f;rw[if_pos ⟨hbo,by omega⟩]
  cases hr:recL out with
  | ok p =>
   obtain⟨⟨d,q,a,b⟩,i⟩:=p;obtain⟨e1,e2,e3,e4⟩:=Qus hbo hr;refine⟨d,q,a,b,0,rfl,fun _=>⟨⟨e2,e3,e4⟩,?_⟩,fun r' hr' hfr=>⟨rfl,?_⟩⟩
   ·rw[hso,e1];rfl
   ·have h3:=(h2 _ (Qug hr') hfr).2;obtain⟨i2,h4⟩:=Qut hr'.2.1 hr'.2.2 hr'.1;rw[← h3,hr]at h4
    cases h4
    rfl
  | error p =>
   obtain⟨er,i⟩:=p;refine⟨_,_,_,_,er,rfl,fun h=>absurd h (Qpr hr),fun r' hr' hfr=>?_⟩;have h3:=(h2 _ (Qug hr') hfr).2;obtain⟨i2,h4⟩:=Qut hr'.2.1 hr'.2.2 hr'.1;rw[← h3,hr]at h4
   cases h4
 ·rw[if_neg he];exact⟨_,_,_,_,e,rfl,fun h=>absurd h he,fun r' hr' hfr=>absurd (h2 _ (Qug hr') hfr).1 he⟩
noncomputable def recO(c:List Int):Option Rec:=@dite _ (∃r,okR r∧c++[0]=Qtx r) (Classical.propDecidable _) (fun h=>some h.choose) (fun _=>none)
theorem Qvi{c:List Int}{r1:Bool}{r2:Int}{r3 r4:ByteArray}{r5:Int}(h1:r5=0→okR (⟨r1,r2,r3,r4⟩:Rec)∧c++[0]=Qtx (⟨r1,r2,r3,r4⟩:Rec))(h2:∀r',okR r'→c++[0]=Qtx r'→r5=0∧(⟨r1,r2,r3,r4⟩:Rec)=r') :
  (recO c=some (⟨r1,r2,r3,r4⟩:Rec)∧r5=0)∨(recO c=none∧r5≠0):=by
 unfold recO
 by_cases h:∃r,okR r∧c++[0]=Qtx r
 ·rw[dif_pos h];obtain⟨e1,e2⟩:=h2 _ h.choose_spec.1 h.choose_spec.2;exact .inl ⟨by rw[e2],e1⟩
 ·rw[dif_neg h];exact .inr ⟨rfl,fun h0=>h ⟨_,h1 h0⟩⟩
def fndO(o:Option Rec)(sg fr tt:Int):List C.Fd:=match o with
 | some r=>[(⟨r,sg,fr,tt-fr+1⟩:C.Fd)]
 | none=>[]
noncomputable def fnd:KS→List Int→List Int→List C.Fd
 | _,_,[]=>[]
 | K,held,x :: l=>if x=0 then fndO (recO held) K.2.1 K.2.2.2 K.2.2.1++fnd (cutN K x) [] l
   else fnd (cutN K x) (if(cutN K x).2.2.1-(cutN K x).2.2.2=0 then []else held++[x]) l
theorem Qvj(k:Nat):∀(l:List Int) (K:KS) (held:List Int) (ch fo em:Int) (out:List C.Fd),Bytes l→Bytes held→Free held→held.length+l.length≤1000000→2000000≤k →
  ∃K' held' ch' fo' em',Qqe k (K,held,ch,fo,em,out) l=some (K',held',ch',fo',em',out++fnd K held l)
 | [],K,held,ch,fo,em,out,_,_,_,_,_=>⟨K,held,ch,fo,em,by simp[Qqe,fnd]⟩
 | x :: l,K,held,ch,fo,em,out,hb,hh,hf,hl,hk=>by
  have hbl:Bytes l:=fun y hy=>hb y (List.mem_cons_of_mem _ hy)
  have hbx:=hb x (List.mem_cons_self ..);simp only[List.length_cons]at hl
  by_cases hx:x=0
  ·subst hx;obtain⟨r1,r2,r3,r4,r5,g1,g2,g3⟩:=Qvh hh hf (by omega) k (by omega);have h1:Qqd k (K,held,ch,fo,em,out) 0=some (cutN K 0,[],ch+1,(if r5=0 then fo+1 else fo),(if K.2.2.2=K.2.2.1 then em+1 else em),endO out r5 r1 r2 r3 r4 K.2.1 K.2.2.2 K.2.2.1):=by
    unfold Qqd;rw[if_pos rfl];dsimp only;rw[g1];rfl
   have h2:endO out r5 r1 r2 r3 r4 K.2.1 K.2.2.2 K.2.2.1=out++fndO (recO held) K.2.1 K.2.2.2 K.2.2.1:=by
    unfold endO fndO
    rcases Qvi g2 g3 with⟨e1,e2⟩ |⟨e1,e2⟩
    ·rw[if_pos e2,e1]
    ·rw[if_neg e2,e1,List.append_nil]
   obtain⟨K',held',ch',fo',em',h3⟩:=Qvj k l (cutN K 0) [] (ch+1) (if r5=0 then fo+1 else fo) (if K.2.2.2=K.2.2.1 then em+1 else em) (out++fndO (recO held) K.2.1 K.2.2.2 K.2.2.1) hbl (by simp[Bytes]) (by simp[Free]) qq_21 hk;refine⟨K',held',ch',fo',em',?_⟩;unfold Qqe fnd;rw[h1,Option.bind_some,h2,h3,if_pos rfl,List.append_assoc]
  ·have h1:Qqd k (K,held,ch,fo,em,out) x=some (cutN K x,(if(cutN K x).2.2.1-(cutN K x).2.2.2=0 then []else held++[x]),ch,fo,em,out):=by
    unfold Qqd;rw[if_neg hx]
   obtain⟨K',held',ch',fo',em',h3⟩:=Qvj k l (cutN K x) (if(cutN K x).2.2.1-(cutN K x).2.2.2=0 then []else held++[x]) ch fo em out hbl (by split;simp[Bytes];exact hh.app (fun y hy=>by rw[List.mem_singleton.1 hy];exact hbx)) (by split;simp[Free];intro y hy;rcases List.mem_append.1 hy with h|h;exact hf y h;rw[List.mem_singleton.1 h];exact hx) (by split;simp;omega;rw[List.length_append];simp only[List.length_singleton];omega) hk;refine⟨K',held',ch',fo',em',?_⟩;unfold Qqe fnd;rw[h1,Option.bind_some,h3,if_neg hx]
structure Inv (n:Nat) (pre:List Int) (sg at_ fr:Nat) (held:List Int):Prop where
  pos:fr≤at_∧at_<n
  len:pre.length=sg*n+at_
  held:held=pre.drop (sg*n+fr)
def ksOf(n sg at_ fr:Nat):KS:=((n:Int),(sg:Int),(at_:Int),(fr:Int))
theorem Qvk(n sg at_ fr:Nat)(x:Int)(hs:sg<1000000000000):cutN (ksOf n sg at_ fr) x=if at_+1=n then ksOf n (sg+1) 0 0 else ksOf n sg (at_+1) (if x=0 then at_+1 else fr):=by
 unfold cutN cutF ksOf;dsimp only
 by_cases h:at_+1=n
 ·rw[if_pos (by omega),if_pos h,show((sg:Int)+1)%18446744073709551616=((sg+1:Nat):Int)by omega];rfl
 ·rw[if_neg (by omega),if_neg h];split<;>rfl
def Qvl(L:List Int)(n:Nat)(c:Ck):List Int:=(L.drop (c.1.toNat*n+c.2.1.toNat)).take (c.2.2-c.2.1).toNat
noncomputable def fndC(L:List Int)(n:Nat)(c:Ck):List C.Fd:=fndO (recO (Qvl L n c)) c.1 c.2.1 c.2.2
theorem Qvm(L:List Int)(n:Nat):∀(l pre held:List Int) (sg at_ fr:Nat),L=pre++l→L.length≤1000000→Inv n pre sg at_ fr held→fnd (ksOf n sg at_ fr) held l=(cutA (ksOf n sg at_ fr) l).1.flatMap (fndC L n)
 | [],pre,held,sg,at_,fr,_,_,_=>by simp[fnd,cutA]
 | x :: l,pre,held,sg,at_,fr,hL,hLl,hI=>by
  obtain⟨hp,hlen,hheld⟩:=hI;have hLlen:L.length=pre.length+(l.length+1):=by rw[hL,List.length_append,List.length_cons]
  have hsgn:sg≤sg*n:=Nat.le_mul_of_pos_right _ (by omega);have hnext:L=(pre++[x])++l:=by rw[hL];simp
  have hpl:(pre++[x]).length=sg*n+at_+1:=by rw[List.length_append];simp only[List.length_singleton];omega
  have hmul:(sg+1)*n=sg*n+n:=Nat.succ_mul _ _;unfold fnd cutA;rw[List.flatMap_append]
  by_cases hx:x=0
  ·subst hx;rw[if_pos rfl];have hO:cutO (ksOf n sg at_ fr) 0=[((sg:Int),(fr:Int),(at_:Int))]:=rfl;have hc:fndC L n ((sg:Int),(fr:Int),(at_:Int))=fndO (recO held) (sg:Int) (fr:Int) (at_:Int):=by
    unfold fndC Qvl;dsimp only;rw[Int.toNat_natCast,Int.toNat_natCast,show((at_:Int)-(fr:Int)).toNat=at_-fr by omega,hL,List.drop_append_of_le_length (by omega),List.take_append_of_le_length (by rw[List.length_drop];omega),List.take_of_length_le (by rw[List.length_drop];omega),← hheld]
   rw[hO];simp only[List.flatMap_cons,List.flatMap_nil,List.append_nil];rw[hc]
   congr 1
   rw[Qvk n sg at_ fr 0 (by omega)]
   by_cases hw:at_+1=n
   ·rw[if_pos hw];exact Qvm L n l (pre++[0]) [] (sg+1) 0 0 hnext hLl ⟨by omega,by rw[hpl,hmul];omega,by rw[List.drop_of_length_le (by rw[hpl,hmul];omega)]⟩
   ·rw[if_neg hw,if_pos rfl];exact Qvm L n l (pre++[0]) [] sg (at_+1) (at_+1) hnext hLl ⟨by omega,by rw[hpl];omega,by rw[List.drop_of_length_le (by rw[hpl];omega)]⟩
  ·rw[if_neg hx];have hO:cutO (ksOf n sg at_ fr) x=[]:=by unfold cutO;rw[if_neg hx]
   rw[hO,Qvk n sg at_ fr x (by omega)];simp only[List.flatMap_nil,List.nil_append]
   by_cases hw:at_+1=n
   ·rw[if_pos hw];have h0:(ksOf n (sg+1) 0 0).2.2.1-(ksOf n (sg+1) 0 0).2.2.2=0:=rfl;rw[if_pos h0];exact Qvm L n l (pre++[x]) [] (sg+1) 0 0 hnext hLl ⟨by omega,by rw[hpl,hmul];omega,by rw[List.drop_of_length_le (by rw[hpl,hmul];omega)]⟩
   ·rw[if_neg hw,if_neg hx];have h0:¬(ksOf n sg (at_+1) fr).2.2.1-(ksOf n sg (at_+1) fr).2.2.2=0:=by
     unfold ksOf;dsimp only;omega
    rw[if_neg h0];exact Qvm L n l (pre++[x]) (held++[x]) sg (at_+1) fr hnext hLl ⟨by omega,by rw[hpl];omega,by rw[hheld,List.drop_append_of_le_length (by omega)]⟩
def nOf(a0:Int):Nat:=if 1<a0 then a0.toNat else 1
theorem Qvn(a0:Int):(Qqh a0).1=ksOf (nOf a0) 0 0 0:=by
 unfold Qqh ksOf nOf;dsimp only;split
 ·rw[Int.toNat_of_nonneg (by omega)];rfl
 ·rfl
noncomputable def allF(a0:Int)(l:List Int):List C.Fd:=(cutA (ksOf (nOf a0) 0 0 0) l).1.flatMap (fndC l (nOf a0))
theorem Qvo(a0:Int)(l:List Int)(hb:Bytes l)(hl:l.length≤100000)(k:Nat)(hk:2000000≤k):Qcj.f k a0 l=some (allF a0 l):=by
 obtain⟨K',held',ch',fo',em',h⟩:=Qvj k l (Qqh a0).1 [] 0 0 0 [] hb (by simp[Bytes]) (by simp[Free]) qq_21 hk;unfold Qcj.f;rw[if_pos hl];have h':Qqe k (Qqh a0) l=some (K',held',ch',fo',em',[]++fnd (Qqh a0).1 [] l):=h;rw[h',Option.bind_some,List.nil_append,Qvn];unfold allF;rw[Qvm l (nOf a0) l [] [] 0 0 0 rfl (by omega) ⟨by unfold nOf;split<;>omega,by simp,by simp⟩]
def rB:Rec:=⟨false,1,⟨#[97]⟩,⟨#[]⟩⟩
def lB:List Int:=[5,2,1,1,97,9,178,219,227,238,248,239,180,212,0]
theorem lB_is:Qtx rB=lB:=by kernel_rfl
theorem okRB:okR rB:=⟨by kernel_rfl,by decide,by decide⟩
theorem Qvp:Bytes lB:=by
 unfold lB;intro x hx;simp only[List.mem_cons,List.not_mem_nil,or_false]at hx;omega
theorem recB:recO (lB.take 14)=some rB:=by
 have hb:Bytes (lB.take 14):=fun x hx=>Qvp x (List.mem_of_mem_take hx)
 have hf:Free (lB.take 14):=by
  unfold lB;intro x hx;simp only[List.take_succ_cons,List.take_zero,List.mem_cons,List.not_mem_nil,or_false]at hx;omega
 obtain⟨r1,r2,r3,r4,r5,g1,g2,g3⟩:=Qvh hb hf (by decide) 100 (by decide);have h:=g3 rB okRB (by rw[lB_is];rfl)
 rcases Qvi g2 g3 with⟨e1,e2⟩ |⟨e1,e2⟩
 ·rw[e1,h.2]
 ·exact absurd h.1 e2
theorem allB:allF 64 lB=[(⟨rB,0,0,15⟩:C.Fd)]:=by
 have h:(cutA (ksOf (nOf 64) 0 0 0) lB).1=[(0,0,14)]:=by rfl
 unfold allF;rw[h,List.flatMap_cons,List.flatMap_nil,List.append_nil];unfold fndC;rw[show Qvl lB (nOf 64) (0,0,14)=lB.take 14 from rfl,recB];rfl
theorem salvB:Qcj.f 2000000 64 lB=some [(⟨rB,0,0,15⟩:C.Fd)]:=by
 rw[Qvo 64 lB Qvp (by decide) 2000000 (Nat.le_refl _),allB]
theorem salv0:Qcj.f 2000000 64 []=some []:=by
 rw[Qvo 64 [] (fun x hx=>by simp at hx) (by decide) 2000000 (Nat.le_refl _)];rfl
theorem recordB:∃t,Qbk.f 400 false 1 ⟨#[97]⟩ ⟨#[]⟩=some t∧bytesOf t=lB:=by
 obtain⟨t,h1,h2⟩:=Qro 400 false 1 ⟨#[97]⟩ ⟨#[]⟩ (by decide) (by decide) (by decide) (by decide) (by decide);exact⟨t,h1,h2.trans lB_is⟩
end Go.Proofs.YteaocbonofboeaaGreat.CodecP
end
section
namespace Go.Proofs.YteaocbonofboeaaGreat.C
open Go.RowKit Go.Proofs.YteaocbonofboeaaGreatW.PrintWords Go.Proofs.YteaocbonofboeaaGreatW.PrintLast Go.Proofs.YteaocbonofboeaaGreatW.PrintMore
def Qav.f:Option Bool:=some true
theorem Qav.calls(r:Bool)(w:World)(h:Qav.f=some r) :
  Calls Tryz.prog 23 #[] w fun e w'=>e=.returned (.bool r)∧Below w.heap.size w w':=by
 obtain rfl:=Option.some.inj h;obtain⟨t,ht,hbt⟩:=CodecP.recordB;have hz:=QA (show t.size=15 by rw[← Qdb,hbt];rfl);have hS:∀(W:World) (A:Option Addr) (c:Nat),t.size≤c→Kd.C (Kd.int .u8) W A t.size (bytesOf t)→Calls Tryz.prog 34 #[.int .i64 64,.slice A t.size c] W fun e w'=>∃d,e=.returned d∧Kd.R k74 74 w' W.heap.size (fun _=>True) d [(⟨CodecP.rB,0,0,15⟩:S74)]∧Below W.heap.size W w':=fun W A c hc hC=>by
  have:=Qcj.calls 2000000 64 A c (bytesOf t) [(⟨CodecP.rB,0,0,15⟩:S74)] W;rw[Qdb]at this;exact this hC hc (by rw[hbt];exact CodecP.salvB)
 have hz0:(Qcj.f 2000000 64 []:Option (List S74))=some []:=CodecP.salv0;have hu:=Tryz.underlying37;have hu2:=Tryz.underlying74;have hb0:=Below.refl w.heap.size w;have kb:=fun W=>Qdd (P:=Tryz.prog) 9 40 5 Tryz.underlying9 Tryz.underlying40 Tryz.underlying5 t W
 go_enter Tryz.func23,Tryz.ntmps23
 go_upto_region 1 with(fail)
 go_cut [1] (fun v wc=>∃(ad:Addr) (c2:Nat),v=.slice (some ad) 1 c2∧Aside0 (Kd.C k74 wc (some ad) 1 [(⟨CodecP.rB,0,0,15⟩:S74)])∧Aside0 (Below w.heap.size w wc))
 case first =>
  go_wp2_with (first
   |(go_at_call 37;refine(Qbk.calls 400 false 1 ⟨#[97]⟩ ⟨#[]⟩ t _ ht).mono ?_;rintro e w1 ⟨rfl,hb1⟩)
   |(go_at_call 34;refine(hS _ _ _ (Go.grownCap_ge _ _ _ _) (Qkw _ t (by rw[hz.out];decide))).mono ?_;rintro e w2 ⟨v2,rfl,hR2,hb2⟩;obtain⟨A2,c2,e2⟩:=Kd.R_slice hR2;subst e2))
  go_meet
  case rel =>
   obtain⟨ad,ead,_⟩:=Qiu (Kd.R_reads' hR2).2.2 0 (by decide) (by decide);subst ead;have h1:=Qdf hb1 hb1.size 5 t;exact⟨ad,c2,rfl,⟨(Kd.R_reads' hR2).2.2⟩,⟨Qcs h1 h1.size hb2⟩⟩
 case rest =>
  obtain⟨ad,c2,rfl,HC,HB⟩:=hcut;obtain⟨ad',ead,g,j,a,k,l,b,m⟩:=Qiu HC.out 0 (by decide) (by decide);obtain rfl:=Option.some.inj ead;clear g j k l m ead;have e0:ad.add ((0:Int).toNat*7)=ad:=by first|rfl|simp[Addr.add]
  rw[e0]at a b;replace a:wc.cell? ⟨ad.block,ad.off+2,none⟩=some (.string ⟨#[97]⟩):=a;replace b:wc.cell? ⟨ad.block,ad.off+5,none⟩=some (.int .i64 0):=b;have HX2:=QA a;have HX5:=QA b;clear a b
  go_wp2_with (first
   |(go_at_call 47;refine(Qau.calls true _ rfl).mono ?_;rintro e w3 ⟨rfl,hb3⟩;have HX23:=QA ((hb3.cell (World.block_lt_of_cell? _ _ HX2.out)).trans HX2.out);have HX53:=QA ((hb3.cell (World.block_lt_of_cell? _ _ HX5.out)).trans HX5.out))
   |(go_at_call 34;refine(Qcj.calls 2000000 64 none 0 [] [] _ (Kd.C_nil _ _) (Nat.le_refl _) hz0).mono ?_;rintro e w4 ⟨v4,rfl,hR4,hb4⟩;obtain⟨A4,c4,e4⟩:=Kd.R_slice hR4;subst e4;have n:=((hb4.cell (World.block_lt_of_cell? _ _ HX23.out)).trans HX23.out);have o:=((hb4.cell (World.block_lt_of_cell? _ _ HX53.out)).trans HX53.out)))
  go_ret
  have h3:=Qcs HB.out HB.out.size hb3;exact⟨rfl,Qcs h3 h3.size hb4⟩
end Go.Proofs.YteaocbonofboeaaGreat.C
end
