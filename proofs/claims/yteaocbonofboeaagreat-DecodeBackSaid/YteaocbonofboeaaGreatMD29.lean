/- Merged texts. -/
import Derived.Test.YteaocbonofboeaaGreatMD02
import Derived.Test.YteaocbonofboeaaGreatMD28
import Derived.Test.YteaocbonofboeaaGreatMD18
import Derived.Test.YteaocbonofboeaaGreatMD21
import Derived.Test.YteaocbonofboeaaGreatMD22
import Derived.Test.YteaocbonofboeaaGreatMD20
import Derived.Test.YteaocbonofboeaaGreatMD27
import Derived.Test.YteaocbonofboeaaGreatMD19
import Derived.Test.YteaocbonofboeaaGreatMD25
set_option linter.unusedVariables false
set_option linter.unusedSimpArgs false
set_option maxHeartbeats 8000000
set_option maxRecDepth 100000
section
namespace Go.Proofs.YteaocbonofboeaaGreat.C
open Go.RowKit Go.Proofs.YteaocbonofboeaaGreatW.PrintWords Go.Proofs.YteaocbonofboeaaGreatW.PrintLast Go.Proofs.YteaocbonofboeaaGreatW.PrintMore Go.Proofs.YteaocbonofboeaaGreat.Open
theorem opT4:Opens Tryz.prog 4 Kd.bool (fun x=>True):=Qta Tryz.underlying4 (by kernel_rfl)
theorem opT35:Opens Tryz.prog 35 (Kd.int .u64) (fun x=>(Lit.int .u64 x).wf=true):=Qtb Tryz.underlying35 (by kernel_rfl)
theorem opT9:Opens Tryz.prog 9 Kd.string (fun x=>x.size≤140737488351232):=Qtc Tryz.underlying9 (by kernel_rfl)
def OG37(x:S37):Prop:=True∧(Lit.int .u64 x.f1).wf=true∧x.f2.size≤140737488351232∧x.f3.size≤140737488351232
theorem opT37:Opens Tryz.prog 37 k37 (fun x=>OG37 x):=Qth Tryz.underlying37 (by kernel_rfl) (by kernel_rfl) (OpensFs.cons opT4 (OpensFs.cons opT35 (OpensFs.cons opT9 (OpensFs.one opT9)))) (fun x:S37=>(x.f0,x.f1,x.f2,x.f3)) (fun p=>⟨p.1,p.2.1,p.2.2.1,p.2.2.2⟩) (fun _=>rfl)
theorem opT22:Opens Tryz.prog 22 (Kd.slice 37 k37) (fun x=>(x.length*48≤140737488351232∧∀z1∈x,OG37 z1)):=Qte (B:=48) Tryz.underlying22 (by kernel_rfl) (by kernel_rfl) opT37
def Qay.Pure:Prop:=∀(x0:Int) (x1:List (S37)),(Lit.int .u8 x0).wf=true→(x1.length*48≤140737488351232∧∀z2∈x1,OG37 z2)→∃k,Qay.f k x0 x1=some true
end Go.Proofs.YteaocbonofboeaaGreat.C
end
section
namespace Go.Proofs.YteaocbonofboeaaGreat.CodecP
open Go.RowKit Go.Proofs.YteaocbonofboeaaGreat.C Go.Proofs.YteaocbonofboeaaGreatW.PrintWords Go.Proofs.YteaocbonofboeaaGreatW.PrintLast Go.Proofs.YteaocbonofboeaaGreatW.PrintMore
theorem Qwc(j:Nat)(x b:Int)(hj:j≤9)(d:0≤x)(hx:x<128^j)(hb0:0≤b)(hb:b<256)(h9:j=9→b≤1) :
  Go.bits .or .u64 x (shl .u64 (IntKind.u64.wrap (Go.bits .andNot .u8 b 128)) (7*(j:Int)))=x+128^j*(b%128):=by
 have e0:Go.bits .andNot .u8 b 128=b%128:=by
  have h:∀n:Fin 256,Go.bits .andNot .u8 ((n.val:Nat):Int) 128=((n.val:Nat):Int)%128:=by decide +kernel
  obtain⟨n,rfl⟩:=Int.eq_ofNat_of_zero_le hb0;exact h ⟨n,by omega⟩
 have hc:b%128<128∧0≤b%128∧(j=9→b%128≤1):=⟨by omega,by omega,fun h=>by have:=h9 h;omega⟩;rw[e0,IntWalk.u64_in _ (by omega)];generalize b%128=c at hc ⊢;obtain⟨hc1,hc0,hc9⟩:=hc;obtain⟨a,rfl⟩:=Int.eq_ofNat_of_zero_le d;obtain⟨c,rfl⟩:=Int.eq_ofNat_of_zero_le hc0;have hp:(128:Nat)^j=2^(7*j):=by rw[Nat.pow_mul]
 have ha:a<2^(7*j):=by
  rw[← hp]
  exact_mod_cast hx
 have hbig:c*2^(7*j)<2^64:=by
  by_cases h:j=9
  ·subst h;have:=hc9 rfl;have e:(2:Nat)^(7*9)=9223372036854775808:=by decide
   rw[e];omega
  ·have h1:c*2^(7*j)<2^7*2^(7*j):=Nat.mul_lt_mul_of_pos_right (by omega) (Nat.two_pow_pos _);have h2:(2:Nat)^7*2^(7*j)≤2^64:=by rw[← Nat.pow_add];exact Nat.pow_le_pow_right (by omega) (by omega)
   omega
 have ha2:a<2^64:=by
  have h2:(2:Nat)^(7*j)≤2^64:=Nat.pow_le_pow_right (by omega) (by omega);omega
 rw[show(7*(j:Int))=((7*j:Nat):Int)by push_cast;rfl];unfold shl;rw[show min ((7*j:Nat):Int).toNat IntKind.u64.bits=7*j by simp[IntKind.bits];omega,IntKind.wrap_u64];have e1:((c:Int)*2^(7*j))%18446744073709551616=((2^(7*j)*c:Nat):Int):=by
  have e2:((c:Int)*2^(7*j))=((c*2^(7*j):Nat):Int):=by push_cast;rfl
  rw[e2,Nat.mul_comm (2^(7*j)) c];omega
 rw[e1,bits_or_u64_nat _ _ (by omega) (by rw[Nat.mul_comm];omega),Nat.or_comm,← Nat.two_pow_add_eq_or_of_lt ha];have e3:((128:Int)^j*(c:Int))=((128^j*c:Nat):Int):=by push_cast;rfl
 rw[e3,hp];omega
theorem Qwd{bs:List Int}{i:Nat}(h:i<bs.length):bs.drop i=rd bs (i:Int) :: bs.drop (i+1):=by rw[rd_get h];exact List.drop_eq_getElem_cons h
theorem Qwe{bs:List Int}{i:Nat}{c:Int}{t:List Int}(h:bs.drop i=c :: t):i<bs.length∧rd bs (i:Int)=c∧bs.drop (i+1)=t:=by
 have hi:i<bs.length:=by
  rcases Nat.lt_or_ge i bs.length with h1|h1
  ·exact h1
  ·rw[List.drop_eq_nil_of_le h1]at h;cases h
 rw[Qwd hi]at h
 cases h
 exact⟨hi,rfl,rfl⟩
theorem p128(j:Nat)(h:j≤8):(128:Int)^j≤72057594037927936:=by
 have k:∀j:Fin 9,(128:Int)^j.val≤72057594037927936:=by decide +kernel
 exact k ⟨j,by omega⟩
theorem Qwf(j:Nat):0<(128:Int)^j:=Int.pow_pos (by decide)
theorem Qwg(bs:List Int)(hb:Bytes bs):∀(n j i:Nat) (x r i1:Int),n+j=9→0≤x→x<128^j→Qph bs (n+1) (j:Int) (i:Int) x=.ok (r,i1) →
  ∃y:Int,0≤y∧(0<j→y≠0)∧r=x+128^j*y∧r<18446744073709551616∧i1=((i+(vput n y).length:Nat):Int)∧bs.drop i=vput n y++bs.drop (i+(vput n y).length)
 | n, j,i,x,r,i1,hnj,hx0,hx1,h=>by
  have hpos:=Qwf j;unfold Qph at h
  by_cases hi:(i:Int)<(bs.length:Int)
  ·rw [if_pos hi]at h;have hd:=rd_range hb (show i<bs.length by omega);have hdrop:=Qwd (show i<bs.length by omega)
   by_cases c1:(j:Int)=9∧1<rd bs (i:Int)
   ·rw[if_pos c1]at h;cases h
   ·rw [if_neg c1]at h;have h9:j=9→rd bs (i:Int)≤1:=fun hj=>by omega
    rw[Qwc j x (rd bs (i:Int)) (by omega) hx0 hx1 hd.1 hd.2 h9]at h;generalize rd bs (i:Int)=b at *;have hm:(128:Int)^j*(b%128)≤128^j*127:=Int.mul_le_mul_of_nonneg_left (by omega) (by omega);have hm0:0≤(128:Int)^j*(b%128):=Int.mul_nonneg (by omega) (by omega)
    by_cases c2:128≤b
    ·rw[if_pos c2]at h
     cases n with
     | zero=>have:=h9 (by omega);omega
     | succ n =>
      have h':Qph bs (n+1) ((j+1:Nat):Int) ((i+1:Nat):Int) (x+128^j*(b%128))=.ok (r,i1):=by push_cast;exact h
      have hp:(128:Int)^(j+1)=128^j*128:=Int.pow_succ ..;obtain⟨y,a,hyn,hr,hr1,hi1,hdr⟩:=Qwg bs hb n (j+1) (i+1) _ r i1 (by omega) (by omega) (by rw[hp];omega) h';have hy:=hyn (by omega);have hv:vput (n+1) (b%128+128*y)=b :: vput n y:=by
       rw[vput,if_neg (by omega),show(b%128+128*y)%128+128=b by omega,show(b%128+128*y)/128=y by omega]
      refine⟨b%128+128*y,by omega,fun _=>by omega,?_,hr1,?_,?_⟩
      ·rw[hr,hp,Int.mul_add,← Int.mul_assoc];omega
      ·rw[hv,hi1,List.length_cons];congr 1;omega
      ·rw[hv,hdrop,hdr,List.length_cons,List.cons_append,show i+1+(vput n y).length=i+((vput n y).length+1)by omega]
    ·rw[if_neg c2]at h
     by_cases c3:b=0∧(0:Int)<(j:Int)
     ·rw[if_pos c3]at h;cases h
     ·rw[if_neg c3]at h
      cases h
      have e:b%128=b:=by omega
      have hv:vput n b=[b]:=by
       cases n with
       | zero=>rfl
       | succ n=>rw[vput,if_pos (by omega)]
      refine⟨b,hd.1,fun hj hb0=>c3 ⟨hb0,by omega⟩,by rw[e],?_,by rw[hv];rfl,by rw[hv,hdrop];rfl⟩
      by_cases hj:j=9
      ·subst hj;have:=h9 rfl;have e9:(128:Int)^9=9223372036854775808:=by decide
       rw[e,e9];rw[e9]at hx1;omega
      ·have:=p128 j (by omega);omega
  ·rw[if_neg hi]at h;cases h
theorem Qwh(bs:List Int)(hb:Bytes bs):∀(n j i:Nat) (x y:Int) (t:List Int),n+j=9→0≤x→x<128^j→0≤y→(0<j→y≠0)→x+128^j*y<18446744073709551616→bs.drop i=vput n y++t →
  Qph bs (n+1) (j:Int) (i:Int) x=.ok (x+128^j*y,((i+(vput n y).length:Nat):Int))
 | n,j,i,x,y,t,hnj,hx0,hx1,hy0,hyn,hlt,h=>by
  have hpos:=Qwf j;have h9:j=9→y≤1:=fun hj=>by
   subst hj;have e9:(128:Int)^9=9223372036854775808:=by decide
   rw[e9]at hlt;omega
  by_cases hs:y<128
  ·have hv:vput n y=[y]:=by
    cases n with
    | zero=>rfl
    | succ n=>rw[vput,if_pos hs]
   rw[hv]at h ⊢;obtain⟨hi,hr,_⟩:=Qwe h;unfold Qph;rw[if_pos (by omega),hr,if_neg (fun c=>by have:=h9 (by omega);omega),if_neg (by omega),if_neg (fun c=>hyn (by omega) c.1),Qwc j x y (by omega) hx0 hx1 hy0 (by omega) h9,show y%128=y by omega];rfl
  ·cases n with
   | zero=>have:=h9 (by omega);omega
   | succ n =>
    have hv:vput (n+1) y=(y%128+128) :: vput n (y/128):=by rw[vput,if_neg hs]
    rw[hv]at h ⊢;obtain⟨hi,hr,ht⟩:=Qwe h;have hp:(128:Int)^(j+1)=128^j*128:=Int.pow_succ ..;have hm:(128:Int)^j*(y%128)≤128^j*127:=Int.mul_le_mul_of_nonneg_left (by omega) (by omega);have hm0:0≤(128:Int)^j*(y%128):=Int.mul_nonneg (by omega) (by omega);have hsplit:x+128^j*(y%128)+128^(j+1)*(y/128)=x+128^j*y:=by
     have e:y=y%128+128*(y/128):=by omega
     have e2:(128:Int)^j*y=128^j*(y%128)+128^j*(128*(y/128)):=by rw[← Int.mul_add,← e]
     rw[e2,hp,Int.mul_assoc];omega
    have ih:=Qwh bs hb n (j+1) (i+1) (x+128^j*(y%128)) (y/128) t (by omega) (by omega) (by rw[hp];omega) (by omega) (fun _=>by omega) (by rw[hsplit];exact hlt) ht;unfold Qph;rw[if_pos (by omega),hr,if_neg (fun c=>by omega),if_pos (by omega),Qwc j x (y%128+128) (by omega) hx0 hx1 (by omega) (by omega) (fun hj=>by omega),show(y%128+128)%128=y%128 by omega];rw[hsplit]at ih
    push_cast at ih
    rw[ih,List.length_cons]
    congr 2
    push_cast
    omega
theorem Qwi{bs:List Int}(hb:Bytes bs){i:Nat}{n i1:Int}(h:Qph bs 10 0 (i:Int) 0=.ok (n,i1)):∃m:Nat,i1=(m:Int)∧0≤n∧n<18446744073709551616∧bs.drop i=vput 9 n++bs.drop m∧m=i+(vput 9 n).length:=by
 obtain⟨y,h0,_,h2,h3,h4,h5⟩:=Qwg bs hb 9 0 i 0 n i1 rfl (Int.le_refl _) (by decide) h;obtain rfl:n=y:=by rw[h2];simp
 exact⟨_,h4,h0,h3,h5,rfl⟩
theorem Qwj{bs:List Int}(hb:Bytes bs){i:Nat}{n:Int}{t:List Int}(h0:0≤n)(h1:n<18446744073709551616)(h:bs.drop i=vput 9 n++t):Qph bs 10 0 (i:Int) 0=.ok (n,((i+(vput 9 n).length:Nat):Int)):=by
 have:=Qwh bs hb 9 0 i 0 n t rfl (Int.le_refl _) (by decide) h0 (fun h=>by omega) (by simpa using h1) h
 simpa using this
theorem Qwk{bs:List Int}(hb:Bytes bs){i:Nat}{least most i2:Int}{xs:List Int}(hl:0≤least)(h:Qpk bs least most (i:Int)=.ok (xs,i2)) :
  ∃m:Nat,i2=(m:Int)∧least≤(xs.length:Int)∧(xs.length:Int)≤most∧bs.drop i=vput 9 (xs.length:Int)++(xs++bs.drop m)∧Bytes xs:=by
 unfold Qpk at h
 cases hv:Qph bs 10 0 (i:Int) 0 with
 | error p=>rw[hv]at h;cases h
 | ok p =>
  obtain⟨n,i1⟩:=p;obtain⟨m,rfl,h0,h1,hd,hm⟩:=Qwi hb hv;rw[hv]at h;dsimp only at h;split at h
  ·cases h
  ·rename_i c1;split at h
   ·cases h
   ·rename_i c2;split at h
    ·rename_i c3
     cases h
     have hlen:((bs.drop ((m:Int)).toNat).take n.toNat).length=n.toNat:=by rw[List.length_take,List.length_drop];omega
     refine⟨m+n.toNat,by omega,by rw[hlen];omega,by rw[hlen];omega,?_,(hb.drop _).take _⟩;rw[hlen,hd,show((n.toNat:Nat):Int)=n by omega,Int.toNat_natCast,← List.drop_drop,List.take_append_drop]
    ·cases h
theorem Qwl:∀(n:Nat) (x:Int),0<(vput n x).length
 | 0,_=>by simp[vput]
 | n+1,x=>by
  unfold vput;split<;>simp
theorem Qwm{bs:List Int}(hb:Bytes bs){i:Nat}{least most:Int}{xs t:List Int}(h0:least≤(xs.length:Int))(h1:(xs.length:Int)≤most)(hm:most<18446744073709551616)(h:bs.drop i=vput 9 (xs.length:Int)++(xs++t)) :
  Qpk bs least most (i:Int)=.ok (xs,((i+(vput 9 (xs.length:Int)).length+xs.length:Nat):Int)):=by
 have hv:=Qwj hb (Int.natCast_nonneg _) (by omega) h;have hd:bs.drop (i+(vput 9 (xs.length:Int)).length)=xs++t:=by rw[← List.drop_drop,h,List.drop_left]
 have hlen:i+(vput 9 (xs.length:Int)).length+xs.length≤bs.length∨xs=[]:=by
  have:=congrArg List.length hd;rw[List.length_drop,List.length_append]at this
  rcases xs with _ |⟨x,xs⟩
  ·exact Or.inr rfl
  ·exact Or.inl (by simp only[List.length_cons]at this ⊢;omega)
 have hle:i+(vput 9 (xs.length:Int)).length≤bs.length:=by
  have:=congrArg List.length h;rw[List.length_drop,List.length_append]at this;have hne:=Qwl 9 (xs.length:Int);omega
 unfold Qpk;rw[hv];dsimp only;have hle2:i+(vput 9 (xs.length:Int)).length+xs.length≤bs.length:=by
  rcases hlen with h|h
  ·exact h
  ·rw[h]at hle ⊢;simpa using hle
 rw[if_neg (by omega),if_neg (by omega),if_pos (by push_cast;omega),Int.toNat_natCast,Int.toNat_natCast,hd,List.take_left]
 congr 1
theorem Qwn {bs:List Int} (hb:Bytes bs) {d:Bool} {q i:Int} {a b:ByteArray} (h:recL bs=.ok ((d,q,a,b),i)):bs=Qkk d q a b∧chk d a b=0∧0≤q∧q<18446744073709551616:=by
 unfold recL at h
 by_cases h0:(0:Int)<(bs.length:Int)
 ·rw [if_pos h0]at h;have hdrop:bs=rd bs 0 :: bs.drop 1:=Qwd (i:=0) (by omega);have hnum:∀ {xs:List Int},Bytes xs→(strOfNums xs).size=xs.length:=fun hx=>by rw[Qoi,bytesOf_nums hx]
  generalize hr:rd bs 0=k at *
  by_cases hk:k≠2∧k≠3
  ·rw[if_pos hk]at h;cases h
  ·rw [if_neg hk]at h
   cases hv:Qph bs 10 0 (0+1) 0 with
   | error p=>rw[hv]at h;cases h
   | ok p =>
    obtain⟨q',i2⟩:=p;obtain⟨m2,rfl,hq0,hq1,hd2,_⟩:=Qwi (i:=1) hb hv;rw[hv]at h;dsimp only at h
    cases ht:Qpk bs 1 4096 (m2:Int)with
    | error p=>rw[ht]at h;cases h
    | ok p =>
     obtain⟨xs,i3⟩:=p;obtain⟨m3,rfl,c,g,hd3,hbx⟩:=Qwk hb (by decide) ht;rw[ht]at h;dsimp only at h;have hsx:=hnum hbx;have hkey:¬(strOfNums xs).toList=([]:List UInt8):=fun e=>by
      have:=(Qsf _).1 e;omega
     by_cases hk3:k=3
     ·rw[if_pos hk3]at h
      by_cases hend:(0:Int)<(bs.length:Int)-(m3:Int)
      ·rw[if_pos hend]at h;cases h
      ·rw[if_neg hend]at h
       cases h
       refine⟨?_,?_,hq0,hq1⟩
       ·unfold Qkk;rw[if_pos rfl,if_pos rfl,hsx,bytesOf_nums hbx]
        conv=>lhs;rw[hdrop,hd2,hd3,List.drop_eq_nil_of_le (show bs.length≤m3 by omega),hk3]
        simp
       ·unfold chk;rw[if_neg hkey,if_neg (by rw[hsx];omega),(Qsf (⟨#[]⟩:ByteArray)).2 rfl,if_neg (by decide),if_neg (by decide)]
     ·rw [if_neg hk3]at h;obtain rfl:k=2:=by omega
      cases hu:Qpk bs 0 1048576 (m3:Int)with
      | error p=>rw[hu]at h;cases h
      | ok p =>
       obtain⟨ys,i4⟩:=p;obtain⟨m4,rfl,j,l,hd4,hby⟩:=Qwk hb (by decide) hu;rw[hu]at h;dsimp only at h;have hsy:=hnum hby
       by_cases hend:(0:Int)<(bs.length:Int)-(m4:Int)
       ·rw[if_pos hend]at h;cases h
       ·rw[if_neg hend]at h
        cases h
        refine⟨?_,?_,hq0,hq1⟩
        ·unfold Qkk;rw[if_neg (by decide),if_neg (by decide),hsx,hsy,bytesOf_nums hbx,bytesOf_nums hby]
         conv=>lhs;rw[hdrop,hd2,hd3,hd4,List.drop_eq_nil_of_le (show bs.length≤m4 by omega)]
         simp
        ·unfold chk;rw[if_neg hkey,if_neg (by rw[hsx];omega),if_neg (by simp),if_neg (by rw[hsy];omega)]
 ·rw[if_neg h0]at h;cases h
theorem Qwo{d:Bool}{q:Int}{a b:ByteArray}(h0:0≤q)(h1:q<18446744073709551616)(hc:chk d a b=0):∃i,recL (Qkk d q a b)=.ok ((d,q,a,b),i):=by
 have hca:(0:Int)<a.size∧(a.size:Int)≤4096∧(b.size:Int)≤1048576:=by
  unfold chk at hc;split at hc
  ·cases hc
  ·rename_i c1;rw[Qsf]at c1;split at hc
   ·cases hc
   ·split at hc
    ·cases hc
    ·split at hc
     ·cases hc
     ·omega
 have hb:Bytes (Qkk d q a b):=Qvr d q a b h0 h1 (by omega) (by omega);have hle:(Qkk d q a b)≠[]:=by unfold Qkk;simp
 have hpos:(0:Int)<((Qkk d q a b).length:Int):=by
  have:=List.length_pos_iff.2 hle;omega
 generalize hB:Qkk d q a b=bs at *;have hbody:=hB;unfold Qkk at hbody;have hd0:bs.drop 0=(if d then(3:Int)else 2) :: (vput 9 q++((vput 9 a.size++bytesOf a)++(if d then []else vput 9 b.size++bytesOf b))):=by
  rw[List.drop_zero,← hbody];simp
 obtain⟨_,hr,hd1⟩:=Qwe hd0;have hv:=Qwj hb h0 h1 hd1;have hd2:bs.drop (1+(vput 9 q).length)=vput 9 (((bytesOf a).length:Nat):Int)++(bytesOf a++(if d then []else vput 9 b.size++bytesOf b)):=by
  rw[← List.drop_drop,hd1,List.drop_left,Qoi,List.append_assoc]
 have hla:((bytesOf a).length:Int)=a.size:=by rw[Qoi]
 have hlb:((bytesOf b).length:Int)=b.size:=by rw[Qoi]
 have ht:=Qwm hb (least:=1) (most:=4096) (by omega) (by omega) (by decide) hd2;have hd3:bs.drop (1+(vput 9 q).length+(vput 9 (((bytesOf a).length:Nat):Int)).length+(bytesOf a).length)=(if d then []else vput 9 b.size++bytesOf b):=by
  rw[← List.drop_drop,← List.drop_drop,hd2,List.drop_left,List.drop_left]
 generalize 1+(vput 9 q).length=m2 at *;generalize m2+(vput 9 (((bytesOf a).length:Nat):Int)).length+(bytesOf a).length=m3 at *;have hv':Qph bs 10 0 (0+1) 0=.ok (q,(m2:Int)):=by simpa using hv
 cases d with
 | true =>
  have hr':rd bs 0=3:=hr;have hd3':bs.drop m3=[]:=hd3;have hlen:=congrArg List.length hd3';rw[List.length_drop,List.length_nil]at hlen;obtain rfl:b=ByteArray.empty:=Qvs hc;unfold recL;rw[if_pos hpos,hr',if_neg (by decide),hv'];dsimp only;rw[ht];dsimp only;rw[Qrx,if_pos rfl,if_neg (by omega)];exact⟨_,rfl⟩
 | false =>
  have hr':rd bs 0=2:=hr;have hd3':bs.drop m3=vput 9 (((bytesOf b).length:Nat):Int)++(bytesOf b++[]):=by rw[hd3,hlb];simp
  have hu:=Qwm hb (least:=0) (most:=1048576) (by omega) (by omega) (by decide) hd3';have hlen:=congrArg List.length hd3';rw[List.length_drop,List.length_append,List.length_append,List.length_nil]at hlen;unfold recL;rw[if_pos hpos,hr',if_neg (by decide),hv'];dsimp only;rw[ht];dsimp only;rw[Qrx,if_neg (by decide),hu];dsimp only;rw[Qrx,if_neg (by push_cast;omega)];exact⟨_,rfl⟩
theorem Qwp:Bytes []:=fun x hx=>nomatch hx
def unsF:Nat→List Int→Option (List Int)
 | _,[]=>some []
 | 0,_ :: _=>none
 | k+1,c :: t=>if t.length+1<c.toNat then none else(unsF k (t.drop (c.toNat-1))).map (fun d=>t.take (c.toNat-1)++(if c<255∧t.drop (c.toNat-1)≠[]then 0 :: d else d))
theorem Qwq(k:Nat):unsF k []=some []:=by cases k<;>rfl
theorem Qwr:∀(n:Nat) (b:List Int) (k:Nat),b.length≤n→Bytes b→(Qjq b).length≤k→unsF k (Qjq b)=some b
 | n,b,k,hn,hb,hk=>by
  rcases Qve hb with⟨a,r,rfl,hf,hl,e⟩ |⟨a,r,rfl,hf,hl,hr,e⟩ |⟨hf,hl,e⟩
  ·rw[List.length_append,List.length_cons]at hn;rw[e,List.length_cons,List.length_append]at hk
   match n,k,hn,hk with
   | n+1,k+1,hn,hk =>
    have ih:=Qwr n r k (by omega) hb.right.tail (by omega);have hs:=Qvf _ r (Nat.le_refl _) hb.right.tail;have hc:((a.length:Int)+1).toNat-1=a.length:=by omega
    rw[e,unsF,hc,List.take_left' rfl,List.drop_left' rfl,if_neg (by rw[List.length_append];omega),ih,Option.map_some,if_pos ⟨by omega,hs.2.2⟩]
  ·rw[List.length_append]at hn;rw[e,List.length_cons,List.length_append]at hk
   match n,k,hn,hk with
   | 0,k,hn,hk=>omega
   | n+1,k+1,hn,hk =>
    have ih:=Qwr n r k (by omega) hb.right (by omega);have hc:(255:Int).toNat-1=a.length:=by omega
    rw[e,unsF,hc,List.take_left' rfl,List.drop_left' rfl,if_neg (by rw[List.length_append];omega),ih,Option.map_some,if_neg (fun h=>by omega)]
  ·rw[e,List.length_cons]at hk;obtain⟨k,rfl⟩:∃m,k=m+1:=⟨k-1,by omega⟩;have hc:((b.length:Int)+1).toNat-1=b.length:=by omega
   rw[e,unsF,hc,List.take_of_length_le (Nat.le_refl _),List.drop_of_length_le (Nat.le_refl _),if_neg (by omega),Qwq,Option.map_some,if_neg (fun h=>h.2 rfl),List.append_nil]
def unsR(acc rest c:List Int)(j:Nat):List Int × Int:=match unsF j rest with
 | none=>([],2)
 | some d=>if Qjq (acc++d)=c then(acc++d,0)else([],4)
theorem Qws(c:List Int)(hc:Bytes c)(hcl:c.length≤1000000000):∀(j k:Nat) (acc rest:List Int),rest.length≤j→Bytes rest→Free rest→Bytes acc→acc.length+rest.length≤c.length→j+2≤k→Qan.l0 k c acc rest=some (unsR acc rest c j)
 | j,k+1,acc,[],hj,hb,hf,ha,hl,hk=>by
  have hs:=Qvf _ acc (Nat.le_refl _) ha;unfold Qan.l0 unsR;rw[Qwq];dsimp only;rw[if_neg (by simp),List.append_nil];unfold Qam.f;rw[if_pos (by simp at hl;omega),Option.bind_some];unfold Qad.f;rw[Option.bind_some]
  by_cases he:Qjq acc=c
  ·rw[if_pos he,if_pos (by rw[he];exact beq_self_eq_true _)]
  ·rw[if_neg he,if_neg (by
    intro h;exact he ((Qsi hs.2.1 hc).1 (beq_iff_eq.1 h)))]
 | j + 1,k+1,acc,x :: t,hj,hb,hf,ha,hl,hk=>by
  have hx:=hb x (List.mem_cons_self ..);have b:=hf x (List.mem_cons_self ..);have hw:wrap64 x=x:=by unfold wrap64;omega
  have hrd:rd (x :: t) 0=x:=rfl;obtain⟨m,hm⟩:∃m:Nat,x=(m:Int)+1:=⟨x.toNat-1,by omega⟩;have hxt:x.toNat=m+1:=by omega
  unfold Qan.l0;rw[hrd,hw,if_pos (by simp only[List.length_cons];omega),if_pos (by simp only[List.length_cons];omega)]
  by_cases hsh:t.length<m
  ·rw[if_pos (by simp only[List.length_cons];omega)];unfold unsR;rw[unsF,hxt,if_pos (by omega)]
  ·have e1:((x :: t).take (m+1)).drop 1=t.take m:=by simp
   have e2:(x :: t).drop (m+1)=t.drop m:=by simp
   have hlt:(t.take m).length=m:=by rw[List.length_take];omega
   simp only[List.length_cons]at hj hl;have hba:Bytes (acc++t.take m):=ha.app (hb.tail.take m);have hbt:Bytes (t.drop m):=hb.tail.drop m;have hft:Free (t.drop m):=fun y hy=>hf y (List.mem_cons_of_mem _ (List.mem_of_mem_drop hy))
   have hdl:(t.drop m).length=t.length-m:=List.length_drop;rw[if_neg (by simp only[List.length_cons];omega),if_pos (by omega),if_pos (by simp only[List.length_cons];omega),hxt,e1,e2,Option.bind_some,hlt,if_pos (by omega),Option.bind_some,if_pos (by omega),Option.bind_some];have hu:∀(z:List Int) (hz:z=if x<255∧t.drop m≠[]then [0]else []),unsR acc (x :: t) c (j+1)=unsR (acc++t.take m++z) (t.drop m) c j:=by
    intro z hz;unfold unsR;rw[unsF,hxt,if_neg (by omega),Nat.add_sub_cancel]
    cases unsF j (t.drop m)with
    | none=>rfl
    | some d =>
     simp only[Option.map_some];have:acc++(t.take m++(if x<255∧t.drop m≠[]then 0 :: d else d))=acc++t.take m++z++d:=by
      rw[hz]
      by_cases h:x<255∧t.drop m≠[]
      ·rw[if_pos h,if_pos h];simp
      ·rw[if_neg h,if_neg h];simp
     rw[this]
   by_cases a:x≤254
   ·rw[if_pos a]
    by_cases hne:t.drop m=[]
    ·rw[if_neg (by rw[hne];simp),Qws c hc hcl j k _ _ (by omega) hbt hft hba (by rw[List.length_append,hlt,hdl];omega) (by omega),hu [] (by rw[if_neg (fun h=>h.2 hne)]),List.append_nil]
    ·have hpos:0<(t.drop m).length:=List.length_pos_iff.2 hne;rw[if_pos (by omega),if_pos (by rw[List.length_append,hlt];omega),Qws c hc hcl j k _ _ (by omega) hbt hft (hba.app (fun y hy=>by rw[List.mem_singleton.1 hy];omega)) (by rw[List.length_append,List.length_append,hlt,hdl,List.length_singleton];omega) (by omega),hu [0] (by rw[if_pos ⟨by omega,hne⟩])]
   ·rw[if_neg a,Qws c hc hcl j k _ _ (by omega) hbt hft hba (by rw[List.length_append,hlt,hdl];omega) (by omega),hu [] (by rw[if_neg (fun h=>by omega)]),List.append_nil]
theorem Qwt{c:List Int}(hc:Bytes c)(hf:Free c)(hcl:c.length≤1000000000)(k:Nat)(hk:c.length+5≤k):Qan.f k c=some (if c=[]then([],2)else unsR [] c c c.length):=by
 unfold Qan.f Qae.f;rw[Option.bind_some,Qrz hc hf,if_neg (by decide)]
 by_cases h:c=[]
 ·rw[if_pos h,if_pos (by rw[h];rfl)]
 ·rw[if_neg h,if_neg (fun e=>h (List.length_eq_zero_iff.1 (by omega)))];exact Qws c hc hcl c.length k [] c (Nat.le_refl _) hc hf (fun x hx=>by cases hx) (by simp) (by omega)
theorem Qwu{c:List Int}{out:List Int}{e:Int}(h:unsR [] c c c.length=(out,e)):e=0→Qjq out=c:=by
 intro he;unfold unsR at h
 cases hu:unsF c.length c with
 | none=>rw[hu]at h;cases h;cases he
 | some d =>
  rw[hu]at h;dsimp only at h
  by_cases hs:Qjq ([]++d)=c
  ·rw[if_pos hs]at h
   cases h
   exact hs
  ·rw[if_neg hs]at h
   cases h
   cases he
theorem Qwv:∀(j:Nat) (rest d:List Int),Bytes rest→unsF j rest=some d→Bytes d∧d.length≤rest.length
 | j,[],d,hb,h=>by rw[Qwq]at h;cases h;exact⟨Qwp,Nat.le_refl _⟩
 | 0,_ :: _,d,hb,h=>by cases h
 | j+1,x :: t,d,hb,h=>by
  rw[unsF]at h;split at h
  ·cases h
  ·obtain⟨d2,h2,rfl⟩:=Option.map_eq_some_iff.1 h;obtain⟨h3,h4⟩:=Qwv j _ d2 (hb.tail.drop _) h2;rw[List.length_drop]at h4;rename_i hle;have hx:=hb x (List.mem_cons_self ..);split
   ·refine⟨(hb.tail.take _).app (h3.cons ⟨by decide,by decide⟩),?_⟩;rename_i hc;have:0<(t.drop (x.toNat-1)).length:=List.length_pos_iff.2 hc.2;rw[List.length_drop]at this;rw[List.length_append,List.length_take,List.length_cons,List.length_cons];omega
   ·refine⟨(hb.tail.take _).app h3,?_⟩;rw[List.length_append,List.length_take,List.length_cons];omega
theorem Qww{c:List Int}(hc:Bytes c){out:List Int}{e:Int}(h:unsR [] c c c.length=(out,e)):Bytes out∧out.length≤c.length:=by
 unfold unsR at h
 cases hu:unsF c.length c with
 | none=>rw[hu]at h;cases h;exact⟨Qwp,Nat.zero_le _⟩
 | some d =>
  rw[hu]at h;dsimp only at h;split at h
  ·cases h;exact Qwv _ _ _ hc hu
  ·cases h;exact⟨Qwp,Nat.zero_le _⟩
theorem Qwx{b:List Int}(hb:Bytes b):unsR [] (Qjq b) (Qjq b) (Qjq b).length=(b,0):=by
 unfold unsR;rw[Qwr _ b _ (Nat.le_refl _) hb (Nat.le_refl _)];dsimp only;rw[List.nil_append,if_pos rfl]
theorem Qwy:∀(l:List Int),Bytes l→leb (leI l) l.length=l
 | [],_=>rfl
 | b :: l,h=>by
  have hb:=h b (List.mem_cons_self ..);have hr:=(leI_range h.tail).1;simp only[List.length_cons,leb,leI];rw[show(b+256*leI l)%256=b by omega,show(b+256*leI l)/256=leI l by omega,Qwy l h.tail]
theorem Qwz:∀(n:Nat) (x:Int),0≤x→x<256^n→leI (leb x n)=x
 | 0,x,h0,h1=>by simp at h1;simp[leb,leI];omega
 | n+1,x,h0,h1=>by
  rw[Int.pow_succ]at h1;simp only[leb,leI];rw[Qwz n (x/256) (by omega) (by omega)];omega
theorem Qxa(b:List Int):R64 (Qkt 0 b):=by
 unfold Qkt sumP;split<;>(unfold finP;exact bits_r _ _ _)
theorem Qxb{c:List Int}(hc:Bytes c)(hf:Free c)(hcl:c.length≤1000000000)(k:Nat)(hk:c.length+5≤k) :
  ∃out e,Qbe.f k c=some (out,e)∧(e=0→Bytes out∧out.length≤c.length∧c++[0]=Qla out)∧(∀b,Bytes b→c++[0]=Qla b→e=0∧out=b):=by
 have hsb:∀b,Bytes b→c++[0]=Qla b→c=Qjq (b++leb (Qkt 0 b) 8):=fun b hb h=>by
  unfold Qla at h;exact List.append_cancel_right h
 have hbl:∀b,Bytes b→Bytes (b++leb (Qkt 0 b) 8):=fun b hb=>hb.app (Qvl 8 _)
 unfold Qbe.f;rw[Qwt hc hf hcl k hk,Option.bind_some]
 by_cases h0:c=[]
 ·rw[if_pos h0,if_neg (by decide)];refine⟨[],2,rfl,fun h=>absurd h (by decide),fun b hb h=>?_⟩;have h1:=hsb b hb h;rw[h0]at h1;exact absurd h1.symm (Qvf _ _ (Nat.le_refl _) (hbl b hb)).2.2
 ·rw [if_neg h0];obtain⟨o,e0,ho⟩:∃o e0,unsR [] c c c.length=(o,e0):=⟨_,_,rfl⟩;rw[ho];obtain⟨hbo,hlo⟩:=Qww hc ho;have hun:∀b,Bytes b→c++[0]=Qla b→e0=0∧o=b++leb (Qkt 0 b) 8:=fun b hb h=>by
   have h1:=hsb b hb h;have h2:=Qwx (hbl b hb);rw[← h1,ho]at h2
   cases h2
   exact⟨rfl,rfl⟩
  dsimp only
  by_cases he:e0=0
  ·rw [if_pos he,if_pos ⟨hbo,by omega⟩];have hst:=Qwu ho he;unfold openS
   by_cases h8:o.length<8
   ·rw[if_pos h8];refine⟨[],2,rfl,fun h=>absurd h (by decide),fun b hb h=>?_⟩;have h2:=(hun b hb h).2;rw[h2,List.length_append,Qiq]at h8;omega
   ·rw[if_neg h8];have hdl:(o.drop (o.length-8)).length=8:=by rw[List.length_drop];omega
    by_cases hh:leI (o.drop (o.length-8))=Qkt 0 (o.take (o.length-8))
    ·rw[if_pos hh];refine⟨_,0,rfl,fun _=>⟨hbo.take _,by rw[List.length_take];omega,?_⟩,fun b hb h=>⟨rfl,?_⟩⟩
     ·unfold Qla;rw[← hh];have h3:=Qwy (o.drop (o.length-8)) (hbo.drop _);rw[hdl]at h3;rw[h3,List.take_append_drop,hst]
     ·have h2:=(hun b hb h).2;rw[h2,List.length_append,Qiq,Nat.add_sub_cancel,List.take_left' rfl]
    ·rw[if_neg hh];refine⟨[],5,rfl,fun h=>absurd h (by decide),fun b hb h=>?_⟩;have h2:=(hun b hb h).2
     exfalso
     apply hh;have hr:=Qxa b;rw[h2,List.length_append,Qiq,Nat.add_sub_cancel,List.take_left' rfl,List.drop_left' rfl,Qwz 8 _ hr.1 (by have:=hr.2;simpa using this)]
  ·rw[if_neg he];exact⟨[],e0,rfl,fun h=>absurd h he,fun b hb h=>absurd (hun b hb h).1 he⟩
theorem Qxc{c:List Int}(hc:Bytes c)(hf:Free c)(hcl:c.length≤1000000000)(k:Nat)(hk:c.length+5≤k) :
  ∃r1 r2 r3 r4 r5,Qbd.f k c=some (r1,r2,r3,r4,r5)∧(r5=0→okR (⟨r1,r2,r3,r4⟩:Rec)∧c++[0]=Qup (⟨r1,r2,r3,r4⟩:Rec))∧(∀r',okR r'→c++[0]=Qup r'→r5=0∧(⟨r1,r2,r3,r4⟩:Rec)=r'):=by
 obtain⟨out,e,ho,h1,h2⟩:=Qxb hc hf hcl k hk;unfold Qbd.f;rw[ho,Option.bind_some];dsimp only
 by_cases he:e=0
 ·obtain⟨hbo,hlo,hso⟩:=h1 he;rw[if_pos he];unfold Qbu.f;rw[if_pos ⟨hbo,by omega⟩]
  cases hr:recL out with
  | ok p =>
   obtain⟨⟨d,q,a,b⟩,i⟩:=p;obtain⟨e1,e2,e3,e4⟩:=Qwn hbo hr;refine⟨d,q,a,b,0,rfl,fun _=>⟨⟨e2,e3,e4⟩,?_⟩,fun r' hr' hfr=>⟨rfl,?_⟩⟩
   ·rw[hso,e1];rfl
   ·have h3:=(h2 _ (Qvu hr') hfr).2;obtain⟨i2,h4⟩:=Qwo hr'.2.1 hr'.2.2 hr'.1;rw[← h3,hr]at h4
    cases h4
    rfl
  | error p =>
   obtain⟨er,i⟩:=p;refine⟨_,_,_,_,er,rfl,fun h=>absurd h (Qpy hr),fun r' hr' hfr=>?_⟩;have h3:=(h2 _ (Qvu hr') hfr).2;obtain⟨i2,h4⟩:=Qwo hr'.2.1 hr'.2.2 hr'.1;rw[← h3,hr]at h4
   cases h4
 ·rw[if_neg he];exact⟨_,_,_,_,e,rfl,fun h=>absurd h he,fun r' hr' hfr=>absurd (h2 _ (Qvu hr') hfr).1 he⟩
theorem Qxd(a b:ByteArray):a.toList=b.toList↔bytesOf a=bytesOf b:=by
 constructor
 ·intro h;unfold bytesOf;rw[Lib.toList_data,Lib.toList_data]at h;rw[h]
 ·intro h;rw[Qrw h]
theorem entsL_front(bs:List Int)(i n:Nat):Qqo bs i (n+1)=(⟨leI ((bs.drop i).take 8),leI ((bs.drop (i+8)).take 4)⟩:Ent) :: Qqo bs (i+12) n:=by
 unfold Qqo;rw[List.range_succ_eq_map,List.map_cons,List.map_map]
 congr 1
 refine List.map_congr_left fun j _=>?_
 simp only[Function.comp,Nat.succ_eq_add_one];rw[show i+12*(j+1)=i+12+12*j by omega]
theorem wordsL_front(bs:List Int)(i n:Nat):Qqj bs i (n+1)=leI ((bs.drop i).take 8) :: Qqj bs (i+8) n:=by
 unfold Qqj;rw[List.range_succ_eq_map,List.map_cons,List.map_map]
 congr 1
 refine List.map_congr_left fun j _=>?_
 simp only[Function.comp,Nat.succ_eq_add_one];rw[show i+8*(j+1)=i+8+8*j by omega]
theorem drop_leb{bs t:List Int}{i:Nat}{x:Int}{n:Nat}(h:bs.drop i=leb x n++t):(bs.drop i).take n=leb x n∧bs.drop (i+n)=t:=by
 refine⟨by rw[h,List.take_left' (Qiq _ _)],by rw[← List.drop_drop,h,List.drop_left' (Qiq _ _)]⟩
theorem ents_flat(bs:List Int):∀(t:List Ent) (i:Nat) (rest:List Int),(∀x∈t,wfE x)→bs.drop i=t.flatMap ent++rest→Qqo bs i t.length=t∧bs.drop (i+12*t.length)=rest
 | [],i,rest,_,h=>⟨rfl,h⟩
 | x :: t,i,rest,hw,h=>by
  obtain⟨⟨h0,h1⟩,h2,h3⟩:=hw x (List.mem_cons_self ..);rw[List.flatMap_cons]at h;unfold ent at h;rw[List.append_assoc,List.append_assoc]at h;obtain⟨e1,e2⟩:=drop_leb h;obtain⟨e3,e4⟩:=drop_leb e2;obtain⟨e5,e6⟩:=ents_flat bs t (i+12) rest (fun y hy=>hw y (List.mem_cons_of_mem _ hy)) e4;refine⟨?_,?_⟩
  ·rw[List.length_cons,entsL_front,e5,e1,e3,Qwz 8 _ h0 (by simpa using h1),Qwz 4 _ h2 (by simpa using h3)]
  ·rw[List.length_cons,show i+12*(t.length+1)=i+12+12*t.length by omega];exact e6
theorem words_flat(bs:List Int):∀(t:List Int) (i:Nat) (rest:List Int),(∀x∈t,0≤x∧x<18446744073709551616)→bs.drop i=t.flatMap (fun x=>leb x 8)++rest→Qqj bs i t.length=t∧bs.drop (i+8*t.length)=rest
 | [],i,rest,_,h=>⟨rfl,h⟩
 | x :: t,i,rest,hw,h=>by
  obtain⟨h0,h1⟩:=hw x (List.mem_cons_self ..);rw[List.flatMap_cons,List.append_assoc]at h;obtain⟨e1,e2⟩:=drop_leb h;obtain⟨e5,e6⟩:=words_flat bs t (i+8) rest (fun y hy=>hw y (List.mem_cons_of_mem _ hy)) e2;refine⟨?_,?_⟩
  ·rw[List.length_cons,wordsL_front,e5,e1,Qwz 8 _ h0 (by simpa using h1)]
  ·rw[List.length_cons,show i+8*(t.length+1)=i+8+8*t.length by omega];exact e6
theorem leb_drop{bs:List Int}(hb:Bytes bs){i n:Nat}(h:i+n≤bs.length):bs.drop i=leb (leI ((bs.drop i).take n)) n++bs.drop (i+n):=by
 have hl:((bs.drop i).take n).length=n:=by rw[List.length_take,List.length_drop];omega
 have h1:=Qwy ((bs.drop i).take n) ((hb.drop _).take _);rw[hl]at h1;rw[h1,← List.drop_drop,List.take_append_drop]
theorem ents_back{bs:List Int}(hb:Bytes bs):∀(n i:Nat),i+12*n≤bs.length→bs.drop i=(Qqo bs i n).flatMap ent++bs.drop (i+12*n)
 | 0,i,h=>rfl
 | n+1,i,h=>by
  have ih:=ents_back hb n (i+12) (by omega);rw[entsL_front,List.flatMap_cons];unfold ent at ih ⊢;rw[List.append_assoc,List.append_assoc]
  conv=>lhs;rw[leb_drop hb (show i+8≤bs.length by omega),leb_drop hb (show i+8+4≤bs.length by omega),ih]
  rw[show i+12*(n+1)=i+12+12*n by omega]
theorem words_back{bs:List Int}(hb:Bytes bs):∀(n i:Nat),i+8*n≤bs.length→bs.drop i=(Qqj bs i n).flatMap (fun x=>leb x 8)++bs.drop (i+8*n)
 | 0,i,h=>rfl
 | n+1,i,h=>by
  have ih:=words_back hb n (i+8) (by omega);rw[wordsL_front,List.flatMap_cons,List.append_assoc]
  conv=>lhs;rw[leb_drop hb (show i+8≤bs.length by omega),ih]
  rw[show i+8*(n+1)=i+8+8*n by omega]
def footB(u:Int)(t:List Ent):List Int:=[4]++leb t.length 4++leb u 4++t.flatMap ent++(Qmk t).flatMap (fun x=>leb x 8)
theorem footB_bytes(u:Int)(l:List Ent):Bytes (footB u l):=by
 refine Bytes.app (Bytes.app (Bytes.app (Bytes.app ?_ (Qvl 4 _)) (Qvl 4 _)) (Qwa _ Qvz l)) (Qwa _ (fun x=>Qvl 8 x) _);intro y hy
 rcases List.mem_singleton.1 hy with rfl
 omega
theorem footG_sound{bs:List Int}(hb:Bytes bs){u:Int}{t:List Ent}(h:Qqy bs=some (u,t,Qmk t)):bs=footB u t:=by
 unfold Qqy at h;split at h
 ·rename_i h1;split at h
  ·rename_i h2;split at h
   ·have h3:=Option.some.inj h;have eu:=congrArg Prod.fst h3;have et:=congrArg (fun p=>p.2.1) h3;have ew:=congrArg (fun p=>p.2.2) h3;dsimp only at eu et ew;have hlen:=congrArg List.length et;rw[Qqq]at hlen;have hl4:=(leI_range (((hb.drop 1).take 4))).1;generalize hn:(leI ((bs.drop 1).take 4)).toNat=n at *;have hnv:leI ((bs.drop 1).take 4)=(t.length:Int):=by omega
    have d0:bs=rd bs 0 :: bs.drop 1:=Qwd (i:=0) (by omega);have d1:=leb_drop hb (show 1+4≤bs.length by omega);have d2:=leb_drop hb (show 5+4≤bs.length by omega);have d3:=ents_back hb n 9 (by omega);have d4:=words_back hb ((n+15)/16) (9+12*n) (by omega);rw[List.drop_eq_nil_of_le (show bs.length≤9+12*n+8*((n+15)/16)by omega),List.append_nil]at d4;rw[et]at d3;rw[ew]at d4;rw[hnv]at d1;rw[eu]at d2
    conv=>lhs;rw[d0,h1.2,d1,d2,d3,d4]
    unfold footB;simp
   ·cases h
  ·cases h
 ·cases h
theorem fence_rise{t:List Ent}(hp:t.Pairwise (fun x y=>x.f0≤y.f0))(j:Nat)(h:j+1<(Qmk t).length):rd (Qmk t) (j:Int)≤rd (Qmk t) ((j+1:Nat):Int):=by
 have hl:=Qxg t;have h1:(j+1)*16<t.length:=by omega
 have hk:∀i,i<(Qmk t).length→rd (Qmk t) (i:Int)=(Qil t ((i*16:Nat):Int)).f0:=fun i hi=>by
  rw[rd_get hi];have h2:(Qmk t)[i]=Qmj t i:=by simp[Qmk]
  rw[h2];rfl
 rw[hk j (by omega),hk (j+1) h,rdE t (j*16) (by omega),rdE t ((j+1)*16) h1];exact List.pairwise_iff_getElem.1 hp (j*16) ((j+1)*16) (by omega) h1 (by omega)
theorem footG_compl{u:Int}{t:List Ent}(hu:0≤u∧u<4294967296)(hw:∀x∈t,wfE x)(hl:t.length≤1048576)(hr:Qnh t=true)(hp:t.Pairwise (fun x y=>x.f0≤y.f0)):Qqy (footB u t)=some (u,t,Qmk t):=by
 have hfl:=Qxg t;have hB:(footB u t).length=9+12*t.length+8*(Qmk t).length:=by
  have h:=Qnu (t.length:Int) u t;rw[List.nil_append]at h;exact h
 have hd0:(footB u t).drop 0=4 :: (leb (t.length:Int) 4++(leb u 4++(t.flatMap ent++((Qmk t).flatMap (fun x=>leb x 8)++[])))):=by
  rw[List.drop_zero];unfold footB;simp
 generalize footB u t=bs at *;obtain⟨_,hr0,hd1⟩:=Qwe hd0;obtain⟨e1,hd5⟩:=drop_leb hd1;obtain⟨e2,hd9⟩:=drop_leb hd5;obtain⟨e3,hd10⟩:=ents_flat bs t (0+1+4+4) _ hw hd9;obtain⟨e4,_⟩:=words_flat bs (Qmk t) _ [] (Qxz t hw) hd10;have hn:leI ((bs.drop 1).take 4)=(t.length:Int):=by rw[show bs.drop 1=bs.drop (0+1) from rfl,e1,Qwz 4 _ (by omega) (by omega)]
 have hu':leI ((bs.drop 5).take 4)=u:=by rw[show bs.drop 5=bs.drop (0+1+4) from rfl,e2,Qwz 4 _ hu.1 (by simpa using hu.2)]
 have e3':Qqo bs 9 t.length=t:=e3;have e4':Qqj bs (9+12*t.length) ((t.length+15)/16)=Qmk t:=by rw[hfl]at e4;exact e4
 have hs:=(Qqx (Qmk t) (by omega)).2 (fun j hj=>fence_rise hp j hj);unfold Qqy;rw[if_pos ⟨by omega,hr0⟩,hn,Int.toNat_natCast,hu',e3',e4',if_pos ⟨hl,by omega⟩,if_pos ⟨hr,hs⟩]
theorem sortE_f0(l:List Ent):(Qmu l).Pairwise (fun x y=>x.f0≤y.f0):=by
 refine(Qxk l).imp ?_;intro x y h;rw[Qmw]at h;simp at h;exact h.1
theorem foot_spec{c:List Int}{out:List Int}{e:Int}(h1:e=0→Bytes out∧out.length≤c.length∧c++[0]=Qla out)(h2:∀b,Bytes b→c++[0]=Qla b→e=0∧out=b){u:Int}{l:List Rec}{ps:List Int}(hu:0≤u∧u<4294967296)(hnd:(Qqb l ps).Nodup)(hwe:∀x∈Qqb l ps,wfE x∧x.f1<u)(hll:(Qqb l ps).length≤1000000) :
  Qro u l ps (getF e out)=true↔(Qqb l ps≠[]∧c++[0]=Qnp u (Qmu (Qqb l ps))):=by
 generalize hE:Qqb l ps=E at *;have hsl:=Qmv E
 constructor
 ·intro h;unfold getF at h
  by_cases he:e=0
  ·rw [if_pos he]at h;obtain⟨hbo,_,hso⟩:=h1 he
   cases hG:Qqy out with
   | none=>rw[hG]at h;cases h
   | some p =>
    obtain⟨u',t,x⟩:=p;rw[hG]at h;dsimp only at h
    by_cases hc:Qnm u' t=0∧x=Qmk t
    ·rw[if_pos hc]at h;unfold Qro at h;rw[hE]at h;simp only[Bool.and_eq_true,decide_eq_true_eq]at h;obtain⟨rfl,rfl⟩:=h;obtain⟨hck,rfl⟩:=hc;have hb:=footG_sound hbo hG;refine⟨?_,by rw[hso,hb];rfl⟩;rintro rfl;have:Qnm u' (Qmu [])=4:=by
      unfold Qnm;rw[if_pos (show(Qmu ([]:List Ent)).length=0 from hsl)]
     omega
    ·rw[if_neg hc]at h;cases h
  ·rw[if_neg he]at h;cases h
 ·rintro⟨hne,h⟩;have hpos:0<E.length:=List.length_pos_iff.2 hne;obtain⟨he,ho⟩:=h2 (footB u (Qmu E)) (footB_bytes _ _) h;have hmem:∀x∈Qmu E,wfE x:=fun x hx=>(hwe x ((Qne _).mem_iff.1 hx)).1
  have hG:=footG_compl hu hmem (by omega) (Qxm hnd) (sortE_f0 E);have hck:Qnm u (Qmu E)=0:=by
   unfold Qnm;rw[if_neg (by omega),if_neg (by omega),Qxm hnd,if_neg (by decide),Qxr u (fun x hx=>(hwe x hx).2),if_neg (by decide)]
  unfold getF;rw[if_pos he,ho,hG];dsimp only;rw[if_pos ⟨hck,rfl⟩];unfold Qro;rw[hE];simp
end Go.Proofs.YteaocbonofboeaaGreat.CodecP
end
