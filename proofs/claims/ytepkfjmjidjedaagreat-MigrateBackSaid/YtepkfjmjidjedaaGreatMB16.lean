/- Merged texts. -/
import Derived.Test.YtepkfjmjidjedaaGreatMB10
import Derived.Test.YtepkfjmjidjedaaGreatMB07
import Derived.Test.YtepkfjmjidjedaaGreatMB09
import Derived.Test.YtepkfjmjidjedaaGreatMB08
import Derived.Test.YtepkfjmjidjedaaGreatMB02
import Derived.Test.YtepkfjmjidjedaaGreatMB14
import Derived.Test.YtepkfjmjidjedaaGreatMB15
set_option linter.unusedVariables false
set_option linter.unusedSimpArgs false
set_option maxHeartbeats 8000000
set_option maxRecDepth 100000
section
namespace Go.Proofs.YtepkfjmjidjedaaGreat.CodecP
open Go.RowKit Go.Proofs.YtepkfjmjidjedaaGreat.C Go.Proofs.YtepkfjmjidjedaaGreatW.PrintWords Go.Proofs.YtepkfjmjidjedaaGreatW.PrintLast Go.Proofs.YtepkfjmjidjedaaGreatW.PrintMore
theorem Qqy(a b:Nat)(ha:a<4294967296)(hb:b<4294967296):Go.bits .or .u32 (a:Int) (b:Int)=((a ||| b:Nat):Int):=by
 have hx:a ||| b<2^32:=Nat.or_lt_two_pow (by omega) (by omega)
 have h1:(BitVec.ofInt 32 (a:Int)).toNat=a:=by
  rw[BitVec.ofInt_natCast,BitVec.toNat_ofNat];exact Nat.mod_eq_of_lt (by omega)
 have h2:(BitVec.ofInt 32 (b:Int)).toNat=b:=by
  rw[BitVec.ofInt_natCast,BitVec.toNat_ofNat];exact Nat.mod_eq_of_lt (by omega)
 show IntKind.u32.wrap ((BitVec.ofInt 32 (a:Int) ||| BitVec.ofInt 32 (b:Int)).toNat:Int)=_;rw[BitVec.toNat_or,h1,h2,IntKind.wrap_u32];omega
theorem Qqz(a b:Nat)(ha:a<4294967296)(hb:b<4294967296):Go.bits .xor .u32 (a:Int) (b:Int)=((a ^^^ b:Nat):Int):=by
 have hx:a ^^^ b<2^32:=Nat.xor_lt_two_pow (by omega) (by omega);have h1:(BitVec.ofInt 32 (a:Int)).toNat=a:=by
  rw[BitVec.ofInt_natCast,BitVec.toNat_ofNat];exact Nat.mod_eq_of_lt (by omega)
 have h2:(BitVec.ofInt 32 (b:Int)).toNat=b:=by
  rw[BitVec.ofInt_natCast,BitVec.toNat_ofNat];exact Nat.mod_eq_of_lt (by omega)
 show IntKind.u32.wrap ((BitVec.ofInt 32 (a:Int) ^^^ BitVec.ofInt 32 (b:Int)).toNat:Int)=_;rw[BitVec.toNat_xor,h1,h2,IntKind.wrap_u32];omega
def rotM(x n:Nat):Nat:=(x%2^(32-n))*2^n+x/2^(32-n)
theorem Qra(x n:Nat)(hx:x<2^32)(hn:n≤32):rotM x n<2^32:=by
 unfold rotM;have hp:(2:Nat)^(32-n)*2^n=2^32:=by rw[← Nat.pow_add];congr 1;omega
 have h1:x%2^(32-n)<2^(32-n):=Nat.mod_lt _ (Nat.two_pow_pos _);have h2:x/2^(32-n)<2^n:=by rw[Nat.div_lt_iff_lt_mul (Nat.two_pow_pos _),Nat.mul_comm,hp];exact hx
 have h3:(x%2^(32-n))*2^n+2^n≤2^(32-n)*2^n:=by
  rw[← Nat.succ_mul];exact Nat.mul_le_mul_right _ h1
 omega
theorem Qrb(x i:Nat)(hx:x<2^32)(hi:i<32):(2*rotM x i)%2^32+rotM x i/2^31=rotM x (i+1):=by
 unfold rotM;obtain⟨m,hm⟩:∃m,m=31-i:=⟨_,rfl⟩;rw[show 32-i=m+1 by omega,show 32-(i+1)=m by omega];have hp:(2:Nat)^m*2^i=2^31:=by rw[← Nat.pow_add];congr 1;omega
 rw[Nat.pow_succ 2 m,Nat.pow_succ 2 i];generalize hP:(2:Nat)^m=P at *;generalize hQ:(2:Nat)^i=Q at *;have hP0:0<P:=by rw[← hP];exact Nat.two_pow_pos _
 have hQ0:0<Q:=by rw[← hQ];exact Nat.two_pow_pos _
 obtain⟨a,ha⟩:∃a,a=x/(P*2):=⟨_,rfl⟩;obtain⟨b,hb⟩:∃b,b=x%(P*2):=⟨_,rfl⟩;have hxab:x=P*2*a+b:=by rw[ha,hb];exact(Nat.div_add_mod x (P*2)).symm
 have hbl:b<P*2:=by rw[hb];exact Nat.mod_lt _ (by omega)
 have haQ:a<Q:=by
  rw[ha,Nat.div_lt_iff_lt_mul (by omega),Nat.mul_comm,Nat.mul_assoc,Nat.mul_comm 2 Q,← Nat.mul_assoc,hp];omega
 obtain⟨c,hc⟩:∃c,c=b/P:=⟨_,rfl⟩;obtain⟨d,hd⟩:∃d,d=b%P:=⟨_,rfl⟩;have hbcd:b=P*c+d:=by rw[hc,hd];exact(Nat.div_add_mod b P).symm
 have hdl:d<P:=by rw[hd];exact Nat.mod_lt _ hP0
 have hcl:c<2:=by rw[hc,Nat.div_lt_iff_lt_mul hP0,Nat.mul_comm];exact hbl
 have hxP:x/P=2*a+c:=by
  rw[hxab,hbcd,show P*2*a+(P*c+d)=P*(2*a+c)+d by rw[Nat.mul_add,Nat.mul_assoc,Nat.add_assoc],Nat.mul_add_div hP0,Nat.div_eq_of_lt hdl];rfl
 have hxm:x%P=d:=by
  rw[hxab,hbcd,show P*2*a+(P*c+d)=P*(2*a+c)+d by rw[Nat.mul_add,Nat.mul_assoc,Nat.add_assoc],Nat.mul_add_mod,Nat.mod_eq_of_lt hdl]
 rw[← ha,← hb,hxP,hxm];have he:d*Q+a<2^31:=by
  have:d*Q+Q≤P*Q:=by rw[← Nat.succ_mul];exact Nat.mul_le_mul_right _ hdl
  omega
 have hbq:b*Q+a=2^31*c+(d*Q+a):=by
  rw[hbcd,Nat.add_mul,Nat.mul_assoc,Nat.mul_comm c Q,← Nat.mul_assoc,hp,Nat.add_assoc]
 rw[hbq,show d*(Q*2)=2*(d*Q)by rw[← Nat.mul_assoc,Nat.mul_comm]];generalize d*Q=q at *;clear hp hbq hxab hbcd hbl;have:c=0∨c=1:=by omega
 rcases this with rfl|rfl<;>omega
theorem Qrc(x n:Nat)(hx:x<2^32)(h0:0<n)(hn:n<32):rotT (x:Int) (n:Int)=(rotM x n:Nat):=by
 have hand:Go.bits .and .u64 (IntKind.u64.wrap (n:Int)) 31=(n:Int):=by
  rw[IntWalk.u64_in _ (by omega),show(31:Int)=((31:Nat):Int) from rfl,bits_and_u64_nat _ _ (by omega) (by decide)];have:=Nat.and_two_pow_sub_one_eq_mod n 5;rw[show(31:Nat)=2^5-1 from rfl,this,Nat.mod_eq_of_lt (by omega)]
 have h:=Qlq (x:Int) (n:Int) ⟨by omega,by omega,hand⟩;unfold Qac.f at h;rw[hand,if_pos (by omega),IntWalk.u64_in _ (by omega),if_pos (by omega),Option.some_inj]at h;rw[← h];unfold shl shr rotM;have e1:min (n:Int).toNat IntKind.u32.bits=n:=by simp[IntKind.bits];omega
 have e2:min ((32:Int)-(n:Int)).toNat IntKind.u32.bits=32-n:=by simp[IntKind.bits]<;>omega
 rw[e1,e2,IntKind.wrap_u32];have e3:((x:Int)*2^n)%4294967296=(((x%2^(32-n))*2^n:Nat):Int):=by
  rw[← Nat.mul_mod_mul_right,← Nat.pow_add,show 32-n+n=32 by omega];rw[Int.natCast_emod,Int.natCast_mul,Int.natCast_pow];rfl
 have e4:(x:Int)/2^(32-n)=((x/2^(32-n):Nat):Int):=by rw[Int.natCast_ediv,Int.natCast_pow];rfl
 rw[e3,e4];have hp:(2:Nat)^(32-n)*2^n=2^32:=by rw[← Nat.pow_add];congr 1;omega
 have h1:x%2^(32-n)<2^(32-n):=Nat.mod_lt _ (Nat.two_pow_pos _);have h2:x/2^(32-n)<2^n:=by rw[Nat.div_lt_iff_lt_mul (Nat.two_pow_pos _),Nat.mul_comm,hp];exact hx
 have h3:(x%2^(32-n))*2^n+2^n≤2^(32-n)*2^n:=by
  rw[← Nat.succ_mul];exact Nat.mul_le_mul_right _ h1
 have hq:=Nat.two_pow_pos n;rw[Qqy _ _ (by omega) (by omega)]
 congr 1
 rw[Nat.mul_comm,← Nat.two_pow_add_eq_or_of_lt h2]
theorem Qrd(x n:Nat)(hx:x<2^32)(hn:n≤32):Qqf (x:Int) n=(rotM x n:Nat):=by
 have key:∀(d i:Nat),i+d=n→Qbb.l0 (d+1) ((rotM x i:Nat):Int) (n:Int) (i:Int)=some ((rotM x n:Nat):Int):=by
  intro d
  induction d with
  | zero =>
   intro i h;unfold Qbb.l0;obtain rfl:i=n:=by omega
   rw[if_neg (by omega)]
  | succ d ih =>
   intro i h;unfold Qbb.l0;rw[if_pos (by omega),show wrap64 ((i:Int)+1)=((i+1:Nat):Int)by unfold wrap64;omega];have hl:=Qra x i hx (by omega);have hs:=Qrb x i hx (by omega);have e:IntKind.u64.wrap ((Int.tmod (IntKind.u64.wrap (2*((rotM x i:Nat):Int))) 4294967296)+(IntKind.u64.wrap (Int.tdiv ((rotM x i:Nat):Int) 2147483648)))=((rotM x (i+1):Nat):Int):=by
    rw[← hs,Int.tdiv_eq_ediv_of_nonneg (by omega),IntWalk.u64_in (2*((rotM x i:Nat):Int)) (by omega),Int.tmod_eq_emod_of_nonneg (by omega)];generalize rotM x i=y at *;rw[IntWalk.u64_in ((y:Int)/2147483648) (by omega),IntWalk.u64_in _ (by omega)];omega
   rw[e];exact ih (i+1) (by omega)
 have h0:rotM x 0=x:=by simp[rotM,Nat.mod_eq_of_lt hx,Nat.div_eq_of_lt hx]
 have:=key n 0 (by omega);rw[h0]at this;unfold Qqf Qbb.f;rw[show((0:Nat):Int)=0 from rfl]at this;rw[this];rfl
def R32(x:Int):Prop:=0≤x∧x<4294967296
theorem Qre(x:Int)(n:Nat)(hx:R32 x)(h0:0<n)(hn:n<32):Qqf x n=rotT x (n:Int)∧R32 (rotT x (n:Int)):=by
 obtain⟨y,rfl⟩:=Int.eq_ofNat_of_zero_le hx.1;have hy:=hx.2;have:=Qra y n (by omega) (by omega);rw[Qrd y n (by omega) (by omega),Qrc y n (by omega) h0 hn];unfold R32;exact⟨rfl,by omega⟩
theorem em32(x:Int):R32 (x%4294967296):=by unfold R32;omega
theorem tm32{x:Int}(h:0≤x):Int.tmod x 4294967296=x%4294967296:=Int.tmod_eq_emod_of_nonneg h
theorem Qrf(x y:Int)(hx:R32 x)(hy:R32 y):Qqh x y=Qls x y∧R32 (Qls x y):=by
 unfold Qqh Qaz.f Qls;have hx1:=hx.1;have hx2:=hx.2;have hy1:=hy.1;have hy2:=hy.2;have h1:IntKind.u64.wrap (x+(IntKind.u64.wrap (y*2246822519)))=x+y*2246822519:=by rw[IntWalk.u64_in (y*2246822519) (by omega),IntWalk.u64_in _ (by omega)]
 have h2:IntKind.u32.wrap (x+IntKind.u32.wrap (y*2246822519))=(x+y*2246822519)%4294967296:=by simp only[IntKind.wrap_u32];omega
 rw[show(14:Nat)=13+1 from rfl,show(13:Int)=((13:Nat):Int) from rfl,h1,tm32 (by omega),Qqg _ 13 (by omega),h2];obtain⟨e1,e2,e3⟩:=Qre ((x+y*2246822519)%4294967296) 13 (em32 _) (by omega) (by omega);rw[e1];generalize rotT ((x+y*2246822519)%4294967296) ((13:Nat):Int)=z at *;refine⟨?_,by rw[IntKind.wrap_u32];exact em32 _⟩;show Int.tmod (IntKind.u64.wrap (z*2654435761)) 4294967296=_;rw[IntWalk.u64_in _ (by omega),tm32 (by omega),IntKind.wrap_u32]
theorem Qrg(l:List Int)(hb:Bytes l)(hl:4≤l.length):numT l=leI (l.take 4):=by
 obtain⟨a,b,c,d,r,rfl⟩:∃a b c d r,l=a :: b :: c :: d :: r:=by
  match l,hl with
  | a :: b :: c :: d :: r,_=>exact⟨a,b,c,d,r,rfl⟩
 have ha:=hb a (by simp);have hb':=hb b (by simp);have hc:=hb c (by simp);have hd:=hb d (by simp);have h:=Qlr (a :: b :: c :: d :: r) hl;unfold Qcj.f at h;rw[if_pos (by simp only[List.length_cons];omega),if_pos (by simp only[List.length_cons];omega),if_pos (by simp only[List.length_cons];omega),if_pos (by simp only[List.length_cons];omega),Option.some_inj]at h;rw[← h];have r0:rd (a :: b :: c :: d :: r) 0=a:=rfl;have r1:rd (a :: b :: c :: d :: r) 1=b:=rfl;have r2:rd (a :: b :: c :: d :: r) 2=c:=rfl;have r3:rd (a :: b :: c :: d :: r) 3=d:=rfl;rw[r0,r1,r2,r3];simp only[List.take_succ_cons,List.take_zero,leI];obtain⟨a,rfl⟩:=Int.eq_ofNat_of_zero_le ha.1;obtain⟨b,rfl⟩:=Int.eq_ofNat_of_zero_le hb'.1;obtain⟨c,rfl⟩:=Int.eq_ofNat_of_zero_le hc.1;obtain⟨d,rfl⟩:=Int.eq_ofNat_of_zero_le hd.1;clear h r0 r1 r2 r3 hb hl;have e1:(((b:Int)%4294967296)*256)%4294967296=((2^8*b:Nat):Int):=by omega
 have e2:(((c:Int)%4294967296)*65536)%4294967296=((2^16*c:Nat):Int):=by omega
 have e3:(((d:Int)%4294967296)*16777216)%4294967296=((2^24*d:Nat):Int):=by omega
 have e0:(a:Int)%4294967296=(a:Int):=by omega
 rw[e0,e1,e2,e3,Qqy _ _ (by omega) (by omega)];have o1:a ||| 2^8*b=2^8*b+a:=by rw[Nat.or_comm,← Nat.two_pow_add_eq_or_of_lt (by omega)]
 rw[o1,Qqy _ _ (by omega) (by omega)];have o2:2^8*b+a ||| 2^16*c=2^16*c+(2^8*b+a):=by rw[Nat.or_comm,← Nat.two_pow_add_eq_or_of_lt (by omega)]
 rw[o2,Qqy _ _ (by omega) (by omega)];have o3:2^16*c+(2^8*b+a) ||| 2^24*d=2^24*d+(2^16*c+(2^8*b+a)):=by rw[Nat.or_comm,← Nat.two_pow_add_eq_or_of_lt (by omega)]
 rw[o3];omega
theorem numT_r(l:List Int)(hb:Bytes l)(hl:4≤l.length):R32 (numT l):=by
 rw[Qrg l hb hl];have:=leI_range (hb.take 4);rw[List.length_take,Nat.min_eq_left hl]at this;unfold R32;omega
theorem Qrh(s:ByteArray)(a:Nat)(h:a+4≤s.size):rval (s.extract a (a+4))=numT ((bytesOf s).drop a):=by
 rw[val_ext s a (a+4) (by omega),Qrg _ ((Qkt s).drop a) (by rw[List.length_drop,Qcy];omega),Nat.add_sub_cancel_left]
theorem Qri(s:ByteArray)(a:Nat)(h:a+4≤s.size):R32 (numT ((bytesOf s).drop a)):=numT_r _ ((Qkt s).drop a) (by rw[List.length_drop,Qcy];omega)
def RV32(v:V4):Prop:=R32 v.1∧R32 v.2.1∧R32 v.2.2.1∧R32 v.2.2.2
theorem Qrj(v:V4)(s:ByteArray)(hv:RV32 v)(h:16≤s.size):Qqo v s=Qlt v (bytesOf s)∧RV32 (Qlt v (bytesOf s)):=by
 obtain⟨h1,h2,h3,h4⟩:=hv;have n0:=Qrh s 0 (by omega);have n1:=Qrh s 4 (by omega);have n2:=Qrh s 8 (by omega);have n3:=Qrh s 12 (by omega);have d0:=Qri s 0 (by omega);have i0:=Qrf v.1 _ h1 d0;have i1:=Qrf v.2.1 _ h2 (Qri s 4 (by omega));have i2:=Qrf v.2.2.1 _ h3 (Qri s 8 (by omega));have i3:=Qrf v.2.2.2 _ h4 (Qri s 12 (by omega));rw[List.drop_zero]at i0 n0;refine⟨?_,i0.2,i1.2,i2.2,i3.2⟩;unfold Qqo Qlt;rw[Nat.zero_add]at n0;rw[n0,n1,n2,n3,i0.1,i1.1,i2.1,i3.1]
theorem Qrk:∀(m:Nat) (v:V4) (s:ByteArray),16*m≤s.size→RV32 v→(run3 m v s).1=Qlu m v (bytesOf s)∧bytesOf (run3 m v s).2=(bytesOf s).drop (16*m)∧RV32 (Qlu m v (bytesOf s))
 | 0,v,s,_,hv=>⟨rfl,by simp[run3],hv⟩
 | m+1,v,s,h,hv=>by
  have hsz:(s.extract 16 s.size).size=s.size-16:=by simp
  have hb:bytesOf (s.extract 16 s.size)=(bytesOf s).drop 16:=Qla s 16;obtain⟨e1,e2⟩:=Qrj v s hv (by omega);obtain⟨h1,h2,h3⟩:=Qrk m (Qqo v s) (s.extract 16 s.size) (by omega) (by rw[e1];exact e2);rw[hb,e1]at h1 h3;refine⟨?_,?_,h3⟩
  ·show(run3 m (Qqo v s) (s.extract 16 s.size)).1=Qlu m (Qlt v (bytesOf s)) ((bytesOf s).drop 16);rw[e1];exact h1
  ·show bytesOf (run3 m (Qqo v s) (s.extract 16 s.size)).2=_;rw[h2,hb,List.drop_drop]
   congr 1
   omega
theorem Qrl(sd:Int)(h:R32 sd):Qqp sd=V0T sd∧RV32 (V0T sd):=by
 have h0:=h.1;have h1:=h.2;refine⟨?_,em32 _,em32 _,h,em32 _⟩;unfold Qqp V0T;rw[IntWalk.u64_in sd (by omega),IntWalk.u64_in (sd+2654435761) (by omega),IntWalk.u64_in (sd+2654435761+2246822519) (by omega),IntWalk.u64_in (sd+2246822519) (by omega),IntWalk.u64_in (sd+4294967296) (by omega),IntWalk.u64_in (sd+4294967296-2654435761) (by omega),tm32 (by omega),tm32 (by omega),tm32 (by omega)];rw[show(sd+4294967296-2654435761)%4294967296=(sd-2654435761)%4294967296 by omega]
theorem Qrm(V:V4)(hV:RV32 V):sum3 V=sumT V∧R32 (sumT V):=by
 obtain⟨h1,h2,h3,h4⟩:=hV;obtain⟨a1,a2,a3⟩:=Qre V.1 1 h1 (by omega) (by omega);obtain⟨b1,b2,b3⟩:=Qre V.2.1 7 h2 (by omega) (by omega);obtain⟨c1,c2,c3⟩:=Qre V.2.2.1 12 h3 (by omega) (by omega);obtain⟨d1,d2,d3⟩:=Qre V.2.2.2 18 h4 (by omega) (by omega);unfold sum3 sumT;rw[a1,b1,c1,d1];rw[show((1:Nat):Int)=1 from rfl]at *;rw[show((7:Nat):Int)=7 from rfl]at *;rw[show((12:Nat):Int)=12 from rfl]at *;rw[show((18:Nat):Int)=18 from rfl]at *;generalize rotT V.1 1=a at *;generalize rotT V.2.1 7=b at *;generalize rotT V.2.2.1 12=c at *;generalize rotT V.2.2.2 18=d at *;rw[IntWalk.u64_in (a+b) (by omega),IntWalk.u64_in (a+b+c) (by omega),IntWalk.u64_in (a+b+c+d) (by omega),tm32 (by omega)];simp only[IntKind.wrap_u32];exact⟨by omega,em32 _⟩
theorem Qrn(sd:Int)(s:ByteArray)(h:R32 sd):(Qqr sd s).1=(Qlv sd (bytesOf s)).1∧bytesOf (Qqr sd s).2=(Qlv sd (bytesOf s)).2∧R32 (Qlv sd (bytesOf s)).1:=by
 unfold Qqr Qlv;rw[Qcy]
 by_cases h16:16≤s.size
 ·rw[if_pos h16,if_neg (by omega)];obtain⟨i1,i2⟩:=Qrl sd h;obtain⟨r1,r2,r3⟩:=Qrk (s.size/16) (V0T sd) s (by omega) i2;obtain⟨s1,s2⟩:=Qrm _ r3;rw[i1];dsimp only;exact⟨by rw[r1,s1],r2,s2⟩
 ·rw[if_neg h16,if_pos (by omega)];have h0:=h.1;have h1:=h.2;dsimp only;refine⟨?_,rfl,em32 _⟩;rw[IntWalk.u64_in sd (by omega),IntWalk.u64_in _ (by omega),tm32 (by omega)]
theorem Qro(h:Int)(s:ByteArray)(hh:R32 h)(hs:4≤s.size):Qqs h s=Qlz h (bytesOf s)∧R32 (Qlz h (bytesOf s)):=by
 have n0:=Qrh s 0 (by omega);have d0:=Qri s 0 (by omega);rw[List.drop_zero]at n0 d0;rw[Nat.zero_add]at n0;unfold Qqs Qlz;rw[n0];generalize numT (bytesOf s)=x at *;have h0:=hh.1;have h1:=hh.2;have x0:=d0.1;have x1:=d0.2;rw[IntWalk.u64_in (x*3266489917) (by omega),IntWalk.u64_in (h+x*3266489917) (by omega),tm32 (x:=h+x*3266489917) (by omega)];obtain⟨e1,e2,e3⟩:=Qre ((h+x*3266489917)%4294967296) 17 (em32 _) (by omega) (by omega);rw[e1];rw[show((17:Nat):Int)=17 from rfl]at *;generalize rotT ((h+x*3266489917)%4294967296) 17=z at *;rw[IntWalk.u64_in _ (by omega),tm32 (by omega)];exact⟨rfl,em32 _⟩
theorem Qrp:∀(m:Nat) (h:Int) (s:ByteArray),4*m≤s.size→R32 h→(Qqt m h s).1=Qma m h (bytesOf s)∧bytesOf (Qqt m h s).2=(bytesOf s).drop (4*m)∧R32 (Qma m h (bytesOf s))
 | 0,h,s,_,hv=>⟨rfl,by simp[Qqt],hv⟩
 | m+1,h,s,hs,hv=>by
  have hsz:(s.extract 4 s.size).size=s.size-4:=by simp
  have hb:bytesOf (s.extract 4 s.size)=(bytesOf s).drop 4:=Qla s 4;obtain⟨e1,e2⟩:=Qro h s hv (by omega);obtain⟨h1,h2,h3⟩:=Qrp m (Qqs h s) (s.extract 4 s.size) (by omega) (by rw[e1];exact e2);rw[hb,e1]at h1 h3;refine⟨?_,?_,h3⟩
  ·show(Qqt m (Qqs h s) (s.extract 4 s.size)).1=Qma m (Qlz h (bytesOf s)) ((bytesOf s).drop 4);rw[e1];exact h1
  ·show bytesOf (Qqt m (Qqs h s) (s.extract 4 s.size)).2=_;rw[h2,hb,List.drop_drop]
   congr 1
   omega
theorem Qrq(h x:Int)(hh:R32 h)(hx:0≤x∧x<256):one3 h x=oneT h x∧R32 (oneT h x):=by
 unfold one3 oneT;have h0:=hh.1;have h1:=hh.2;rw[IntWalk.u64_in x (by omega),IntWalk.u64_in (x*374761393) (by omega),IntWalk.u64_in (h+x*374761393) (by omega),tm32 (x:=h+x*374761393) (by omega),show x%4294967296=x by omega];obtain⟨e1,e2,e3⟩:=Qre ((h+x*374761393)%4294967296) 11 (em32 _) (by omega) (by omega);rw[e1];rw[show((11:Nat):Int)=11 from rfl]at *;generalize rotT ((h+x*374761393)%4294967296) 11=z at *;rw[IntWalk.u64_in _ (by omega),tm32 (by omega)];exact⟨rfl,em32 _⟩
theorem Qrr:∀(l:List Int) (h:Int),Bytes l→R32 h→l.foldl one3 h=l.foldl oneT h∧R32 (l.foldl oneT h)
 | [],h,_,hh=>⟨rfl,hh⟩
 | x :: l,h,hb,hh=>by
  obtain⟨e1,e2⟩:=Qrq h x hh (hb x (by simp));have:=Qrr l (oneT h x) (fun y hy=>hb y (List.mem_cons_of_mem _ hy)) e2;rw[List.foldl_cons,List.foldl_cons,e1];exact this
theorem Qrs(x n:Nat)(hx:x<4294967296)(hn:n≤32):Qqk (x:Int) n=((x ^^^ x/2^n:Nat):Int):=by
 have key:∀(d i:Nat),i+d=n→Qba.l0 (d+1) (x:Int) ((x/2^i:Nat):Int) (n:Int) (i:Int)=some ((x ^^^ x/2^n:Nat):Int):=by
  intro d
  induction d with
  | zero =>
   intro i h;unfold Qba.l0;obtain rfl:i=n:=by omega
   have:=Nat.div_le_self x (2^i);rw[if_neg (by omega),bits_xor_u64_nat _ _ (by omega) (by omega)]
  | succ d ih =>
   intro i h;unfold Qba.l0;have hq:=Nat.div_le_self x (2^i);rw[if_pos (by omega),show wrap64 ((i:Int)+1)=((i+1:Nat):Int)by unfold wrap64;omega,Int.tdiv_eq_ediv_of_nonneg (Int.natCast_nonneg _)];have e:IntKind.u64.wrap (((x/2^i:Nat):Int)/2)=((x/2^(i+1):Nat):Int):=by
    rw[Nat.pow_succ,← Nat.div_div_eq_div_mul];generalize x/2^i=y at *;rw[IntWalk.u64_in _ (by omega)];omega
   rw[e];exact ih (i+1) (by omega)
 have h:=key n 0 (by omega);unfold Qqk Qba.f;rw[Nat.pow_zero,Nat.div_one,show((0:Nat):Int)=0 from rfl]at h;rw[h];rfl
theorem xor_r(x n:Nat)(hx:x<4294967296):x ^^^ x/2^n<4294967296:=by
 have:=Nat.div_le_self x (2^n);have h:=Nat.xor_lt_two_pow (x:=x) (y:=x/2^n) (n:=32) (by omega) (by omega);omega
theorem Qrt(x:Int)(n:Nat)(p q:Int)(hx:R32 x)(hn:n≤32)(hp:0≤p∧p<4294967296)(hq:q=((2^n:Nat):Int)):Int.tmod (IntKind.u64.wrap (Qqk x n*p)) 4294967296=mixT x q p∧R32 (mixT x q p):=by
 obtain⟨y,rfl⟩:=Int.eq_ofNat_of_zero_le hx.1;have hy:=hx.2;have hr:=xor_r y n (by omega);have hdiv:=Nat.div_le_self y (2^n);subst hq;unfold mixT;rw[Qrs y n (by omega) hn,← Int.natCast_ediv,Qqz _ _ (by omega) (by omega)];generalize y ^^^ y/2^n=z at *;refine⟨?_,em32 _⟩;have hz:(z:Int)*p<18446744073709551616:=by
  have h1:(z:Int)*p≤(z:Int)*4294967295:=Int.mul_le_mul_of_nonneg_left (by omega) (by omega);omega
 have hz0:0≤(z:Int)*p:=Int.mul_nonneg (by omega) hp.1;rw[IntWalk.u64_in _ ⟨hz0,by omega⟩,tm32 hz0]
theorem Qru(h:Int)(hh:R32 h):fin3 h=finT h∧R32 (finT h):=by
 unfold fin3 finT;obtain⟨a1,a2⟩:=Qrt h 15 2246822519 32768 hh (by omega) (by omega) (by decide);rw[a1];obtain⟨b1,b2⟩:=Qrt _ 13 3266489917 8192 a2 (by omega) (by omega) (by decide);rw[b1];generalize mixT (mixT h 32768 2246822519) 8192 3266489917=x at *;obtain⟨y,rfl⟩:=Int.eq_ofNat_of_zero_le b2.1;have hy:=b2.2;have hr:=xor_r y 16 (by omega);have hdiv:=Nat.div_le_self y (2^16);rw[Qrs y 16 (by omega) (by omega),show(65536:Int)=((2^16:Nat):Int)by decide,← Int.natCast_ediv,Qqz _ _ (by omega) (by omega)];exact⟨rfl,by unfold R32;omega⟩
theorem Qrv(sd:Int)(s:ByteArray)(hsd:R32 sd)(hs:s.size≤4611686018427387904):doc3 sd s=Qmc sd (bytesOf s)∧R32 (Qmc sd (bytesOf s)):=by
 obtain⟨s1,s2,s3⟩:=Qrn sd s hsd;unfold doc3 Qqv Qqw Qmc;rw[Qcy];dsimp only;have hlen:(Qqr sd s).2.size/4=(Qlv sd (bytesOf s)).2.length/4:=by rw[← s2,Qcy]
 have hl2:(Qlv sd (bytesOf s)).2.length=(Qqr sd s).2.size:=by rw[← s2,Qcy]
 rw[s1];have e0:=s3.1;have e1:=s3.2;generalize (Qlv sd (bytesOf s)).1=h0 at *;rw[IntWalk.u64_in _ (by omega),tm32 (by omega)];have hm:=em32 (h0+(s.size:Int)%4294967296);generalize (h0+(s.size:Int)%4294967296)%4294967296=x at *;unfold Qqu Qmb;obtain⟨f1,f2,f3⟩:=Qrp ((Qqr sd s).2.size/4) x (Qqr sd s).2 (by omega) hm;rw[s2]at f1 f2 f3;rw[f1,f2,hl2];have hb:Bytes (Qlv sd (bytesOf s)).2:=by rw[← s2];exact Qkt _
 obtain⟨o1,o2⟩:=Qrr ((Qlv sd (bytesOf s)).2.drop (4*((Qqr sd s).2.size/4))) _ (hb.drop _) f3;rw[o1];exact Qru _ o2
theorem doc_same(sd:Int)(s:ByteArray)(hsd:R32 sd)(hs:s.size≤4611686018427387904):IntKind.u32.wrap (doc3 sd s)=Qmc sd (bytesOf s):=by
 obtain⟨h1,h2⟩:=Qrv sd s hsd hs;have a:=h2.1;have b:=h2.2;rw[h1,IntWalk.u32_in _ (by omega)]
theorem Qtp:∀(d k:Nat) (n i:Nat) (x:Int) (out:ByteArray),i+d=n→n≤1000→0≤x→x<18446744073709551616→out.size≤i→d+1≤k →
  ∃t,Qaw.l0 k x out (n:Int) (i:Int)=some t∧bytesOf t=bytesOf out++leb x d
 | 0,k,n,i,x,out,h,hn,h0,h1,ho,hk=>by
  obtain⟨k,rfl⟩:∃m,k=m+1:=⟨k-1,by omega⟩;refine⟨out,?_,by simp[leb]⟩;unfold Qaw.l0;rw[if_neg (by omega)]
 | d+1,k,n,i,x,out,h,hn,h0,h1,ho,hk=>by
  obtain⟨k,rfl⟩:∃m,k=m+1:=⟨k-1,by omega⟩;have e1:(Int.tmod x 256)%256=x%256:=by rw[Int.tmod_eq_emod_of_nonneg h0];omega
  have e2:IntKind.u64.wrap (Int.tdiv x 256)=x/256:=by rw[Int.tdiv_eq_ediv_of_nonneg h0,IntWalk.u64_in _ (by omega)]
  have hy:(strOfNums [x%256]).size=1:=by rw[strOfNums_size];rfl
  obtain⟨t,ht,hb⟩:=Qtp d k n (i+1) (x/256) (out++strOfNums [x%256]) (by omega) hn (by omega) (by omega) (by rw[ByteArray.size_append,hy];omega) (by omega);refine⟨t,?_,?_⟩
  ·unfold Qaw.l0;rw[if_pos (by omega),Option.bind_some,e1,e2,hy,if_pos (by omega),Qtn i (by omega)];exact ht
  ·rw[hb,Qtk,Qtl (by intro y hy';simp at hy';omega)];simp[leb]
theorem num1(k n:Nat)(x:Int)(hn:n≤1000)(h0:0≤x)(h1:x<18446744073709551616)(hk:n+1≤k):∃t,Qaw.f k x (n:Int)=some t∧bytesOf t=leb x n:=by
 obtain⟨t,ht,hb⟩:=Qtp n k n 0 x (⟨#[]⟩:ByteArray) (by omega) hn h0 h1 (by decide) hk;exact⟨t,ht,by rw[hb];rfl⟩
theorem Qvb:∀(n:Nat) (b:List Int),b.length≤n→b.length<254→(Qjn b).length=b.length+1
 | n,b,hn,h=>by
  rcases Int.lt_or_le (ixOf (b.take 254) 0) 0 with h0|h0
  ·rw[Qjs h0 (by omega)];simp
  ·obtain⟨p,hp⟩:=Int.eq_ofNat_of_zero_le h0;have h1:=(Qjl (b.take 254) 0).2;rw[List.length_take,hp]at h1;rw[Qjq hp]
   match n,hn with
   | 0,hn=>omega
   | n+1,hn =>
    have ih:=Qvb n (b.drop (p+1)) qq_27 qq_27;rw[List.length_cons,List.length_append,ih,List.length_take,List.length_drop];omega
theorem Qvc:∀(n:Nat) (x y:Int),0≤x→x≤y→(vput n x).length≤(vput n y).length
 | 0,_,_,_,_=>by simp[vput]
 | n+1,x,y,h0,h=>by
  have ih:=Qvc n (x/128) (y/128) (by omega) (by omega);unfold vput
  by_cases hy:y<128
  ·rw[if_pos hy,if_pos (by omega)];simp
  ·rw[if_neg hy]
   by_cases hx:x<128
   ·rw[if_pos hx];simp
   ·rw[if_neg hx];simp;omega
def Qvd(e s n:Int):Int:=((Qmr e s n).length:Int)
theorem Qve(e s n:Int):Qvd e s n=3+(vput 9 s).length+(vput 9 n).length+10:=by
 unfold Qvd Qmr Qmm;have h1:=Qjv 9 s;have h2:=Qjv 9 n;have hl:([1,2,e]++vput 9 s++vput 9 n++leb (Qkm 0 ([1,2,e]++vput 9 s++vput 9 n)) 8).length=3+(vput 9 s).length+(vput 9 n).length+8:=by
  rw[List.length_append,List.length_append,List.length_append,Qin];rfl
 rw[List.length_append,Qvb _ _ (Nat.le_refl _) (by rw[hl];omega),hl];simp;omega
theorem Qvf(e s n:Int):0≤Qvd e s n∧Qvd e s n≤100:=by
 rw[Qve];have h1:=Qjv 9 s;have h2:=Qjv 9 n;omega
theorem Qvg(e s:Int){n m:Int}(h0:0≤n)(h:n≤m):Qvd e s n≤Qvd e s m:=by
 rw[Qve,Qve];have:=Qvc 9 n m h0 h;omega
def Qvh(n:Int):Int:=9+12*n+8*((n+15)/16)+8+1+(9+12*n+8*((n+15)/16)+8-1)/254+1
def szN(e:Int):Int:=2^e.toNat
def Good(e s:Int):Prop:=12≤e∧e≤24∧1≤s∧s≤65536
theorem Qvi{e s:Int}(h:Good e s):Qal.f e s=some 0:=by
 obtain⟨h1,h2,h3,h4⟩:=h;unfold Qal.f;rw[if_neg (by omega),if_neg (by omega),if_neg (by omega),if_neg (by omega)]
theorem Qvj{e s:Int}(h:¬Good e s):Qal.f e s=some 1:=by
 unfold Qal.f
 by_cases h1:e<12
 ·rw[if_pos h1]
 by_cases h2:e > 24
 ·rw[if_neg h1,if_pos h2]
 by_cases h3:s<1
 ·rw[if_neg h1,if_neg h2,if_pos h3]
 by_cases h4:s > 65536
 ·rw[if_neg h1,if_neg h2,if_neg h3,if_pos h4]
 ·exact absurd ⟨by omega,by omega,by omega,by omega⟩ h
theorem Qvk{e:Int}(h1:12≤e)(h2:e≤24):4096≤szN e∧szN e≤16777216:=by
 unfold szN;obtain⟨n,rfl⟩:=Int.eq_ofNat_of_zero_le (show 0≤e by omega);rw[Int.toNat_natCast];have h3:(2:Nat)^12≤2^n:=Nat.pow_le_pow_right (by omega) (by omega);have h4:(2:Nat)^n≤2^24:=Nat.pow_le_pow_right (by omega) (by omega);have h5:((2^n:Nat):Int)=(2:Int)^n:=by rw[Int.natCast_pow];rfl
 rw[← h5];omega
theorem Qvl{e s:Int}(h:Good e s):Qam.f e s=some (szN e):=by
 have hr:=Qvk h.1 h.2.1;unfold Qam.f;rw[Qvi h,Option.bind_some,if_pos rfl,if_pos (by have:=h.1;omega)]
 congr 1
 unfold shl;have hm:min e.toNat IntKind.i64.bits=e.toNat:=by simp[IntKind.bits];have:=h.2.1;omega
 rw[hm,Int.one_mul];exact IntWalk.i64_in _ (by unfold szN at hr;omega)
theorem Qvm(c:Int)(h0:0≤c)(h1:c≤16777216):Qbl.f c=some (Qvh c):=by
 have hm:mx 0 c=c:=by unfold mx;split<;>omega
 have hf:Qbj.f c=some ((c+15)/16):=by
  unfold Qbj.f;rw[hm];have e1:wrap64 ((wrap64 (c+16))-1)=c+15:=by unfold wrap64;omega
  rw[e1,Int.tdiv_eq_ediv_of_nonneg (by omega)]
  congr 1
  unfold wrap64;omega
 have ha:wrap64 ((wrap64 (9+(wrap64 (12*c))))+(wrap64 (8*((c+15)/16))))=9+12*c+8*((c+15)/16):=by unfold wrap64;omega
 unfold Qbl.f;rw[hm,hf,Option.bind_some,ha];obtain⟨m,hmm⟩:∃m,m=9+12*c+8*((c+15)/16):=⟨_,rfl⟩;have hm0:0≤m:=by omega
 have hm1:m≤1000000000:=by omega
 unfold Qvh;rw[← hmm];clear hmm ha hf hm;have hx:mx 0 m=m:=by unfold mx;split<;>omega
 unfold Qbp.f Qak.f;rw[hx];have e1:wrap64 (m+8)=m+8:=by unfold wrap64;omega
 rw[e1,if_neg (by omega)];have e2:wrap64 (m+8-1)=m+8-1:=by unfold wrap64;omega
 rw[e2,Int.tdiv_eq_ediv_of_nonneg (by omega),Option.bind_some,Option.bind_some]
 congr 1
 unfold wrap64;omega
theorem Qvn(c:Int)(h0:0≤c)(h1:c≤16777216):12*c≤Qvh c∧Qvh c≤1000000000:=by unfold Qvh;omega
def Qvo(e u c x:Int):Bool:=decide (1≤x∧u+x+Qvh (c+1)≤szN e)
theorem Qvp{e s:Int}(h:Good e s)(n u c x:Int)(hu0:0≤u)(hu1:u≤16777216)(hc0:0≤c)(hc1:c≤8388608)(hx1:x≤1152921504606846976):Qby.f e s n u c x=some (Qvo e u c x):=by
 have hz:=Qvk h.1 h.2.1;have hm:=Qvn (c+1) (by omega) (by omega);unfold Qby.f Qvo
 by_cases hx:x≥1
 ·rw[if_pos hx];unfold Qbz.f;rw[Qvl h,Option.bind_some,show wrap64 (c+1)=c+1 by unfold wrap64;omega,Qvm (c+1) (by omega) (by omega),Option.bind_some,Option.bind_some]
  congr 1
  have e1:wrap64 (wrap64 (szN e-u)-Qvh (c+1))=szN e-u-Qvh (c+1):=by unfold wrap64;omega
  rw[e1];unfold mx;rw[decide_eq_decide];split<;>omega
 ·rw[if_neg hx]
  congr 1
  symm
  rw[decide_eq_false_iff_not];omega
theorem Qvq{e u c x:Int}(h:Qvo e u c x=true):1≤x∧u+x+Qvh (c+1)≤szN e:=by simpa [Qvo]using h
theorem Qvr{e s:Int}(h:Good e s)(n u c x:Int)(hu0:0≤u)(hu1:u≤16777216)(hc0:0≤c)(hc1:c≤8388608)(hx1:x≤1152921504606846976)(hf:Qvo e u c x=true):Qca.f e s n u c x=some (e,s,n,u+x,c+1,0):=by
 have hz:=Qvk h.1 h.2.1;have hm:=Qvn (c+1) (by omega) (by omega);obtain⟨f1,f2⟩:=Qvq hf;unfold Qca.f;rw[Qvp h n u c x hu0 hu1 hc0 hc1 hx1,Option.bind_some,hf,if_pos rfl,show wrap64 (u+x)=u+x by unfold wrap64;omega,show wrap64 (c+1)=c+1 by unfold wrap64;omega]
theorem Qvs{e s:Int}(h:Good e s)(n:Int)(h0:0≤n)(h1:n<s):Qbm.f e s n=some (Qmr e s n,0):=by
 obtain⟨a,b,c,d⟩:=h;unfold Qbm.f Qbq.f;rw[Qvi ⟨a,b,c,d⟩,Option.bind_some,if_pos rfl,if_neg (by omega),Option.bind_some,if_pos rfl,if_pos ⟨by omega,by omega,by omega,by omega,by omega,by omega⟩]
theorem Qvt{e s:Int}(h:Good e s)(n:Int)(h0:0≤n)(h1:n<s):Qbw.f e s n=some (e,s,n,Qvd e s n,0,0):=by
 unfold Qbw.f;rw[Qvs h n h0 h1,Option.bind_some,if_pos rfl];rfl
theorem Qvu{e s:Int}(h:Good e s)(n:Int)(h1:s≤n):Qbw.f e s n=some (0,0,0,0,0,1):=by
 unfold Qbw.f Qbm.f Qbq.f;rw[Qvi h,Option.bind_some,if_pos rfl,if_pos (by omega),Option.bind_some,if_neg (by decide),Option.bind_some,if_neg (by decide)]
def Qvv(e s:Int):List Int→List Int→Int→Int→Int→List Int × Int
 | [],out,_,_,_=>(out,0)
 | x :: t,out,n,u,c =>
  if Qvo e (Qvd e s (s-1)) 0 x=false then([],6)
  else if Qvo e u c x=true then Qvv e s t (out++[n]) n (u+x) (c+1)
  else if n+1<s then Qvv e s t (out++[n+1]) (n+1) (Qvd e s (n+1)+x) 1
  else([],7)
theorem Qvw{e s:Int}(h:Good e s){n x:Int}(h0:0≤n)(h1:n≤s-1)(hf:Qvo e (Qvd e s (s-1)) 0 x=true):Qvo e (Qvd e s n) 0 x=true:=by
 obtain⟨f1,f2⟩:=Qvq hf;have:=Qvg e s h0 h1;simp only[Qvo,decide_eq_true_eq];omega
theorem rd_drop{l:List Int}{i:Nat}(h:i<l.length):l.drop i=rd l (i:Int) :: l.drop (i+1):=by rw[List.drop_eq_getElem_cons h,Qkv h]
theorem Qvx{e s:Int}(h:Good e s){u c x:Int}(hc0:0≤c)(hc1:c≤8388608)(hu0:0≤u)(hf:Qvo e u c x=true):0≤u+x∧u+x≤16777216∧0≤c+1∧c+1≤8388608:=by
 have hz:=Qvk h.1 h.2.1;have hm:=Qvn (c+1) (by omega) (by omega);obtain⟨f1,f2⟩:=Qvq hf;omega
theorem Qvy{e s:Int}(h:Good e s)(l:List Int)(hl:l.length≤1000000)(hx:∀x∈l,x≤1152921504606846976):∀(d i k:Nat) (out:List Int) (n u c:Int),i+d=l.length→out.length=i→0≤n→n<s→0≤u→u≤16777216→0≤c→c≤8388608→d+1≤k →
  Qbx.l0 k out l (l.length:Int) (i:Int) e s e s n u c e s (s-1) (Qvd e s (s-1)) 0=some (Qvv e s (l.drop i) out n u c)
 | 0,i,k,out,n,u,c,hi,ho,hn0,hn1,hu0,hu1,hc0,hc1,hk=>by
  obtain⟨k,rfl⟩:∃m,k=m+1:=⟨k-1,by omega⟩;rw[List.drop_of_length_le (by omega)];unfold Qbx.l0;rw[if_neg (by omega)];rfl
 | d + 1,i,k,out,n,u,c,hi,ho,hn0,hn1,hu0,hu1,hc0,hc1,hk=>by
  obtain⟨k,rfl⟩:∃m,k=m+1:=⟨k-1,by omega⟩;have hg:=h;obtain⟨a1,a2,a3,a4⟩:=h;have hil:i<l.length:=by omega
  have hxi:rd l (i:Int)≤1152921504606846976:=by rw[Qkv hil];exact hx _ (List.getElem_mem hil)
  have hH:=Qvf e s (s-1);rw[rd_drop hil];unfold Qbx.l0;rw[if_pos (by omega),if_pos (by omega),if_pos (by omega),Qtn i (by omega)];generalize hxx:rd l (i:Int)=x at *;rw[Qvp hg (s-1) (Qvd e s (s-1)) 0 x hH.1 (by omega) (by omega) (by omega) hxi,Option.bind_some];unfold Qvv
  by_cases hf:Qvo e (Qvd e s (s-1)) 0 x=false
  ·rw[hf,if_neg (by decide),if_pos rfl]
  ·have hft:Qvo e (Qvd e s (s-1)) 0 x=true:=by simpa using hf
   rw[if_neg hf,if_pos hft,Qvp hg n u c x hu0 hu1 hc0 hc1 hxi,Option.bind_some]
   by_cases hq:Qvo e u c x=true
   ·have haf:=Qvx hg hc0 hc1 hu0 hq;rw[if_pos hq,if_pos hq,Qvr hg n u c x hu0 hu1 hc0 hc1 hxi hq,Option.bind_some,if_pos (by omega)];exact Qvy hg l hl hx d (i+1) k (out++[n]) n (u+x) (c+1) (by omega) (by rw[List.length_append,ho];rfl) hn0 hn1 haf.1 haf.2.1 haf.2.2.1 haf.2.2.2 (by omega)
   ·rw[if_neg hq,if_neg hq,show(n+1)%4294967296=n+1 by omega]
    by_cases hs:n+1<s
    ·have hfn:=Qvw hg (show 0≤n+1 by omega) (by omega) hft;have hHn:=Qvf e s (n+1);have haf:=Qvx hg (Int.le_refl 0) (by omega) hHn.1 hfn;rw[if_pos hs,Qvt hg (n+1) (by omega) hs,Option.bind_some,if_pos rfl,Qvr hg (n+1) (Qvd e s (n+1)) 0 x hHn.1 (by omega) (by omega) (by omega) hxi hfn,Option.bind_some,if_pos (by omega)];exact Qvy hg l hl hx d (i+1) k (out++[n+1]) (n+1) (Qvd e s (n+1)+x) 1 (by omega) (by rw[List.length_append,ho];rfl) (by omega) hs haf.1 haf.2.1 (by omega) (by omega) (by omega)
    ·rw[if_neg hs,Qvu hg (n+1) (by omega),Option.bind_some,if_neg (by decide)]
theorem Qvz{e s:Int}(h:Good e s)(l:List Int)(k:Nat)(hl:l.length≤1000000)(hx:∀x∈l,x≤1152921504606846976)(hk:l.length+1≤k):Qbx.f k e s l=some (Qvv e s l [] 0 (Qvd e s 0) 0):=by
 have hg:=h;obtain⟨a1,a2,a3,a4⟩:=h;have hH:=Qvf e s 0;unfold Qbx.f;rw[Qvt hg 0 (by omega) (by omega),Option.bind_some,if_pos rfl,show(s-1)%4294967296=s-1 by omega,Qvt hg (s-1) (by omega) (by omega),Option.bind_some];exact Qvy hg l hl hx l.length 0 k [] 0 (Qvd e s 0) 0 (by omega) rfl (by omega) (by omega) hH.1 (by omega) (by omega) (by omega) hk
theorem rdR(l:List Rec)(i:Nat)(h:i<l.length):Qic l (i:Int)=l[i]:=by simp[Qic,List.getElem?_eq_getElem h]
def chkR(r:Rec):Int:=chk r.f0 r.f2 r.f3
def chkL:List Rec→Int
 | []=>0
 | r :: t=>if chkR r=0 then chkL t else chkR r
def ordL:List Rec→Int
 | []=>0
 | [_]=>0
 | a :: b :: t=>if b.f1≤a.f1 then 8 else ordL (b :: t)
def risL(l:List Rec):Int:=if chkL l=0 then ordL l else chkL l
theorem Qwa{l:List Rec}(h:chkL l=0):∀r∈l,chkR r=0:=by
 induction l with
 | nil=>intro r hr;cases hr
 | cons a t ih =>
  unfold chkL at h
  by_cases ha:chkR a=0
  ·rw[if_pos ha]at h;intro r hr
   rcases List.mem_cons.1 hr with rfl|hr
   ·exact ha
   ·exact ih h r hr
  ·rw[if_neg ha]at h;exact absurd h ha
theorem check_k(k:Nat)(d:Bool)(s:Int)(key v:ByteArray)(hk:1≤k):Qcd.f k d s key v=some (chk d key v) :=
 Qde (g:=fun k=>Qcd.f k d s key v) (Qcd.mono d s key v) hk (Qmf d s key v)
theorem Qwb{l:List Rec}{i:Nat}(h:i+1<l.length):ordL (l.drop i)=if l[i+1].f1≤l[i].f1 then 8 else ordL (l.drop (i+1)):=by
 rw[List.drop_eq_getElem_cons (by omega),List.drop_eq_getElem_cons h];rfl
theorem Qwc{l:List Rec}(h:l.length≤1):ordL l=0:=by
 match l,h with
 | [],_=>rfl
 | [_],_=>rfl
theorem Qwd(l:List Rec)(hl:l.length≤4611686018427387903):∀(d i k:Nat),i+d=l.length→d+1≤k→Qce.l1 k l ((i+1:Nat):Int)=some (ordL (l.drop i))
 | 0,i,k,h,hk=>by
  obtain⟨k,rfl⟩:∃m,k=m+1:=⟨k-1,by omega⟩;unfold Qce.l1;rw[if_neg (by omega),Qwc qq_27]
 | d+1,i,k,h,hk=>by
  obtain⟨k,rfl⟩:∃m,k=m+1:=⟨k-1,by omega⟩;unfold Qce.l1
  by_cases hi:i+1<l.length
  ·have w1:=Qto (i+1) (by omega) (by omega);rw[Nat.add_sub_cancel]at w1;rw[if_pos (by omega),if_pos (by omega),w1,if_pos (by omega),if_pos (by omega),rdR l (i+1) hi,rdR l i (by omega),Qwb hi]
   by_cases ho:l[i+1].f1≤l[i].f1
   ·rw[if_pos ho,if_pos ho]
   ·rw[if_neg ho,if_neg ho,Qtn (i+1) (by omega)];exact Qwd l hl d (i+1) k (by omega) (by omega)
  ·rw[if_neg (by omega),Qwc qq_27]
theorem Qwe(l:List Rec)(hl:l.length≤4611686018427387903):∀(d i k:Nat),i+d=l.length→d+l.length+5≤k→Qce.l0 k l l (l.length:Int) (i:Int)=some (if chkL (l.drop i)=0 then ordL l else chkL (l.drop i))
 | 0,i,k,h,hk=>by
  obtain⟨k,rfl⟩:∃m,k=m+1:=⟨k-1,by omega⟩;unfold Qce.l0;rw[if_neg (by omega),List.drop_of_length_le (by omega)];exact Qwd l hl l.length 0 k (by omega) (by omega)
 | d+1,i,k,h,hk=>by
  obtain⟨k,rfl⟩:∃m,k=m+1:=⟨k-1,by omega⟩;have hi:i<l.length:=by omega
  unfold Qce.l0;rw[if_pos (by omega),if_pos (by omega),if_pos (by omega),rdR l i hi,check_k k _ _ _ _ (by omega),Option.bind_some,List.drop_eq_getElem_cons hi];unfold chkL
  by_cases hc:chkR l[i]=0
  ·rw[if_pos hc,if_pos (show chk l[i].f0 l[i].f2 l[i].f3=0 from hc),Qtn i (by omega)];exact Qwe l hl d (i+1) k (by omega) (by omega)
  ·rw[if_neg hc,if_neg (show ¬chk l[i].f0 l[i].f2 l[i].f3=0 from hc),if_neg hc];rfl
theorem Qwf(l:List Rec)(k:Nat)(hl:l.length≤4611686018427387903)(hk:2*l.length+5≤k):Qce.f k l=some (risL l) :=
 Qwe l hl l.length 0 k (by omega) (by omega)
def Qwg(r:Rec):List Int:=Qmm (Qmh r.f0 r.f1 r.f2 r.f3)
def fsz(r:Rec):Int:=((Qwg r).length:Int)
def Wf(l:List Rec):Prop:=∀r∈l,0≤r.f1∧r.f1<18446744073709551616
theorem Qwh(d:Bool)(s:Int)(key v:ByteArray):(Qmh d s key v).length≤key.size+v.size+31:=by
 have h1:=Qjv 9 s;have h2:=Qjv 9 (key.size:Int);have h3:=Qjv 9 (v.size:Int);have h4:=Qcy key;have h5:=Qcy v
 cases d
 ·simp only[Qmh,List.length_append,List.length_cons,List.length_nil,Bool.false_eq_true,if_false];omega
 ·simp only[Qmh,List.length_append,List.length_cons,List.length_nil,if_true];omega
theorem Qwi(b:List Int):0<(Qmm b).length∧(Qmm b).length≤2*b.length+18:=by
 have h:=Qmn _ (b++leb (Qkm 0 b) 8) (Nat.le_refl _);rw[List.length_append,Qin]at h;unfold Qmm;rw[List.length_append];simp;omega
theorem Qwj(r:Rec)(hc:chkR r=0):1≤fsz r∧fsz r≤8388608:=by
 have h1:=Qmg hc;have h2:=Qwh r.f0 r.f1 r.f2 r.f3;have h3:=Qwi (Qmh r.f0 r.f1 r.f2 r.f3);unfold fsz Qwg;omega
theorem Qwk(r:Rec)(hc:chkR r=0)(h0:0≤r.f1)(h1:r.f1<18446744073709551616):Qbn.f r.f0 r.f1 r.f2 r.f3=some (Qwg r,0):=by
 have h2:=Qmg hc;have h3:=Qwh r.f0 r.f1 r.f2 r.f3;unfold Qbn.f Qcc.f;rw[if_pos h0,if_pos h1,if_pos (show chk r.f0 r.f2 r.f3=0 from hc),Option.bind_some,if_pos rfl];unfold Qbo.f;rw[if_pos (by dsimp only;omega),Option.bind_some];rfl
def Qwl(e s:Int)(l:List Rec):List Int × Int:=Qvv e s (l.map fsz) [] 0 (Qvd e s 0) 0
theorem Qwm{l:List Rec}{i:Nat}(h:i<l.length):(l.take (i+1)).map fsz=(l.take i).map fsz++[fsz l[i]]:=by rw[List.take_succ_eq_append_getElem h,List.map_append];rfl
theorem Qwn{e s:Int}(h:Good e s)(l:List Rec)(hl:l.length≤1000000)(hw:Wf l)(hc:chkL l=0):∀(d i k:Nat),i+d=l.length→d+l.length+5≤k →
  Qbs.l0 k ((l.take i).map fsz) l (l.length:Int) (i:Int) e s=some ((Qwl e s l).1,l.map fsz,(Qwl e s l).2)
 | 0,i,k,hi,hk=>by
  obtain⟨k,rfl⟩:∃m,k=m+1:=⟨k-1,by omega⟩;unfold Qbs.l0;rw[if_neg (by omega),List.take_of_length_le (by omega),Qvz h (l.map fsz) k (by rw[List.length_map];exact hl) (fun x hx=>by
   obtain⟨r,hr,rfl⟩:=List.mem_map.1 hx;have:=Qwj r (Qwa hc r hr);omega) (by rw[List.length_map];omega),Option.bind_some]
  rfl
 | d+1,i,k,hi,hk=>by
  obtain⟨k,rfl⟩:∃m,k=m+1:=⟨k-1,by omega⟩;have hil:i<l.length:=by omega
  have hr:=List.getElem_mem hil;have hln:((l.take i).map fsz).length=i:=by rw[List.length_map,List.length_take];omega
  unfold Qbs.l0;rw[if_pos (by omega),if_pos (by omega),if_pos (by omega),rdR l i hil,Qwk l[i] (Qwa hc _ hr) (hw _ hr).1 (hw _ hr).2,Option.bind_some,if_pos (by omega),Qtn i (by omega)];have:=Qwn h l hl hw hc d (i+1) k (by omega) (by omega);rw[Qwm hil]at this;exact this
def Qwo(e s:Int)(l:List Rec):List Int × List Int × Int:=if 12≤e∧e≤24∧1≤s∧s≤65536 then if risL l=0 then((Qwl e s l).1,l.map fsz,(Qwl e s l).2)else([],[],risL l)else([],[],1)
theorem Qwp{l:List Rec}(h:risL l=0):chkL l=0:=by
 unfold risL at h
 by_cases hc:chkL l=0
 ·exact hc
 ·rw[if_neg hc]at h;exact h
theorem plan_is(e s:Int)(l:List Rec)(k:Nat)(hl:l.length≤1000000)(hw:Wf l)(hk:2*l.length+10≤k):Qbs.f k e s l=some (Qwo e s l):=by
 unfold Qbs.f Qwo
 by_cases hg:12≤e∧e≤24∧1≤s∧s≤65536
 ·rw[Qvi hg,Option.bind_some,if_pos rfl,if_pos hg,Qwf l k (by omega) (by omega),Option.bind_some]
  by_cases hr:risL l=0
  ·rw[if_pos hr,if_pos hr];exact Qwn hg l hl hw (Qwp hr) l.length 0 k (by omega) (by omega)
  ·rw[if_neg hr,if_neg hr]
 ·rw[Qvj hg,Option.bind_some,if_neg (by decide),if_neg hg]
theorem Qwq(e s:Int):∀(l out:List Int) (n u c:Int),0≤n→n<s→(∀x∈out,0≤x∧x<s)→(Qvv e s l out n u c).2=0 →
  (Qvv e s l out n u c).1.length=out.length+l.length∧∀x∈(Qvv e s l out n u c).1,0≤x∧x<s
 | [],out,n,u,c,h0,h1,ho,h=>⟨by simp[Qvv],ho⟩
 | x :: t,out,n,u,c,h0,h1,ho,h=>by
  unfold Qvv at h ⊢
  by_cases hf:Qvo e (Qvd e s (s-1)) 0 x=false
  ·rw[if_pos hf]at h;cases h
  ·rw [if_neg hf]at h ⊢
   by_cases hq:Qvo e u c x=true
   ·rw[if_pos hq]at h ⊢;have:=Qwq e s t (out++[n]) n (u+x) (c+1) h0 h1 (fun y hy=>by
     rcases List.mem_append.1 hy with hy|hy
     ·exact ho y hy
     ·simp at hy;omega) h
    refine⟨?_,this.2⟩;rw[this.1,List.length_append,List.length_cons];simp;omega
   ·rw[if_neg hq]at h ⊢
    by_cases hs:n+1<s
    ·rw[if_pos hs]at h ⊢;have:=Qwq e s t (out++[n+1]) (n+1) (Qvd e s (n+1)+x) 1 (by omega) hs (fun y hy=>by
      rcases List.mem_append.1 hy with hy|hy
      ·exact ho y hy
      ·simp at hy;omega) h
     refine⟨?_,this.2⟩;rw[this.1,List.length_append,List.length_cons];simp;omega
    ·rw[if_neg hs]at h;cases h
theorem Qwr{e s:Int}{l:List Rec}(h:(Qwo e s l).2.2=0)(hl:l.length≤1000000) :
  Good e s∧risL l=0∧(Qwl e s l).2=0∧Qwo e s l=((Qwl e s l).1,l.map fsz,0)∧(Qwl e s l).1.length=l.length∧∀x∈(Qwl e s l).1,0≤x∧x<s:=by
 unfold Qwo at h ⊢
 by_cases hg:12≤e∧e≤24∧1≤s∧s≤65536
 ·rw[if_pos hg]at h ⊢
  by_cases hr:risL l=0
  ·rw[if_pos hr]at h ⊢;have h2:(Qwl e s l).2=0:=h;have:=Qwq e s (l.map fsz) [] 0 (Qvd e s 0) 0 (by omega) (by omega) (by simp) h2;refine⟨hg,hr,h2,by rw[h2],?_,this.2⟩;have h3:(Qwl e s l).1.length=_:=this.1;rw[h3,List.length_map];simp
  ·rw[if_neg hr]at h;exact absurd h hr
 ·rw[if_neg hg]at h;cases h
def few(l:List Rec)(m b:Int):Bool:=l.all (fun r=>decide ((r.f2.size:Int)≤b) && decide ((r.f3.size:Int)≤b)) && decide ((l.length:Int)≤m)
theorem Qws(l:List Rec)(m b:Int)(hl:l.length≤4611686018427387903):∀(d i k:Nat),i+d=l.length→d+1≤k→Qar.l0 k l m b l (l.length:Int) (i:Int)=some ((l.drop i).all (fun r=>decide ((r.f2.size:Int)≤b) && decide ((r.f3.size:Int)≤b)) && decide ((l.length:Int)≤m))
 | 0,i,k,h,hk=>by
  obtain⟨k,rfl⟩:∃m,k=m+1:=⟨k-1,by omega⟩;unfold Qar.l0;rw[if_neg (by omega),List.drop_of_length_le (by omega)];simp
 | d+1,i,k,h,hk=>by
  obtain⟨k,rfl⟩:∃m,k=m+1:=⟨k-1,by omega⟩;have hi:i<l.length:=by omega
  unfold Qar.l0;rw[if_pos (by omega),if_pos (by omega),if_pos (by omega),rdR l i hi,List.drop_eq_getElem_cons hi,Qtn i (by omega),Qws l m b hl d (i+1) k (by omega) (by omega)];rw[List.all_cons];generalize (l.drop (i+1)).all (fun r=>decide ((r.f2.size:Int)≤b) && decide ((r.f3.size:Int)≤b))=q;generalize l[i]=r
  by_cases h1:(r.f2.size:Int) > b
  ·rw[if_pos h1];simp[show ¬((r.f2.size:Int)≤b)by omega]
  ·rw[if_neg h1]
   by_cases h2:(r.f3.size:Int) > b
   ·rw[if_pos h2];simp[show ¬((r.f3.size:Int)≤b)by omega]
   ·rw[if_neg h2];simp[show((r.f2.size:Int)≤b)by omega,show((r.f3.size:Int)≤b)by omega]
theorem Qwt(l:List Rec)(m b:Int)(k:Nat)(hl:l.length≤4611686018427387903)(hk:l.length+1≤k):Qar.f k l m b=some (few l m b):=Qws l m b hl l.length 0 k (by omega) (by omega)
theorem few_len{l:List Rec}{m b:Int}(h:few l m b=true):(l.length:Int)≤m∧∀r∈l,(r.f2.size:Int)≤b∧(r.f3.size:Int)≤b:=by
 unfold few at h;simp only[Bool.and_eq_true,List.all_eq_true,decide_eq_true_eq]at h;exact⟨h.2,fun r hr=>h.1 r hr⟩
theorem Qwu:∀(n:Nat) (b:List Int),b.length≤n→(Qjn b).length≤b.length+1+(b.length-1)/254
 | n,b,hn=>by
  rcases Int.lt_or_le (ixOf (b.take 254) 0) 0 with h0|h0
  ·by_cases hl:254<b.length
   ·rw[Qjr h0 hl]
    match n,hn with
    | 0,hn=>omega
    | n+1,hn =>
     have ih:=Qwu n (b.drop 254) qq_27;rw[List.length_drop]at ih;rw[List.length_cons,List.length_append,List.length_take];omega
   ·rw[Qjs h0 hl,List.length_cons];omega
  ·obtain⟨p,hp⟩:=Int.eq_ofNat_of_zero_le h0;have h1:=(Qjl (b.take 254) 0).2;rw[List.length_take,hp]at h1;rw[Qjq hp]
   match n,hn with
   | 0,hn=>omega
   | n+1,hn =>
    have ih:=Qwu n (b.drop (p+1)) qq_27;rw[List.length_drop]at ih;rw[List.length_cons,List.length_append,List.length_take];omega
theorem Qwv(b:List Int):(Qmm b).length≤b.length+8+1+(b.length+8-1)/254+1:=by
 have h:=Qwu _ (b++leb (Qkm 0 b) 8) (Nat.le_refl _);rw[List.length_append,Qin]at h;unfold Qmm;rw[List.length_append];simp;omega
theorem Qww(l:List Ent):(Qnp l).length=(l.length+15)/16:=by simp[Qnp,chN]
theorem Qwx(u:Int)(l:List Ent):((Qpm u l).length:Int)≤Qvh (l.length:Int):=by
 have h:=Qwv ([4]++leb l.length 4++leb u 4++l.flatMap ent++(Qnp l).flatMap (fun x=>leb x 8));have h2:=Qpr (l.length:Int) u l;rw[List.nil_append]at h2;rw[h2,Qww]at h;unfold Qpm Qvh;obtain⟨c,hc⟩:∃c,c=(l.length+15)/16:=⟨_,rfl⟩;have hcI:((l.length:Int)+15)/16=(c:Int):=by omega
 rw[hcI];rw[← hc]at h;clear hc hcI h2;obtain⟨g,hg⟩:∃g,g=(9+12*l.length+8*c+8-1)/254:=⟨_,rfl⟩;have hgI:(9+12*(l.length:Int)+8*(c:Int)+8-1)/254=(g:Int):=by omega
 rw[hgI];rw[← hg]at h;clear hg hgI;omega
theorem Qwy(x y z:Ent)(h1:(!(ltOf cfE) y x)=true)(h2:(!(ltOf cfE) z y)=true):(!(ltOf cfE) z x)=true:=by
 rw[Qot]at *;simp at *;omega
theorem Qwz(x y:Ent):((!(ltOf cfE) y x) ||(!(ltOf cfE) x y))=true:=by
 rw[Qot,Qot];simp;omega
theorem Qxa(l:List Ent):(Qor l).Pairwise (fun x y=>(!(ltOf cfE) y x)=true):=List.pairwise_mergeSort Qwy Qwz l
theorem Qxb:∀(l:List Ent),l.Pairwise (fun x y=>(!(ltOf cfE) y x)=true)→l.Nodup→Qpe l=true
 | [],_,_=>rfl
 | [_],_,_=>rfl
 | a :: b :: t,hp,hn=>by
  have hp2:=List.pairwise_cons.1 hp;have hn2:=List.pairwise_cons.1 hn;have ih:=Qxb (b :: t) hp2.2 hn2.2;have h1:=hp2.1 b (by simp);have h2:=hn2.1 b (by simp);have h3:ltOf cfE a b=true:=by
   cases h:ltOf cfE a b with
   | true=>rfl
   | false=>exact absurd (totE a b h (by simpa using h1)) h2
  unfold Qpe ltE;rw[ih]
  simpa [ltOf]using h3
theorem Qxc{l:List Ent}(h:l.Nodup):Qpe (Qor l)=true:=Qxb _ (Qxa l) ((Qpb l).nodup_iff.2 h)
def okB(e s n:Int)(i:Nat)(B:Bd):Prop :=
 B.1=(e,s,n,(B.2.1.length:Int),(B.2.2.length:Int))∧B.2.2.length≤i∧(∀x∈B.2.2,wfE x∧x.f1<(B.2.1.length:Int))∧B.2.2.Pairwise (fun x y=>x.f1<y.f1)∧(B.2.1.length:Int)≤16777216
def putB(e s n:Int)(B:Bd)(r:Rec):Bd :=
 ((e,s,n,((B.2.1++Qwg r).length:Int),((B.2.2.length+1:Nat):Int)),B.2.1++Qwg r,B.2.2++[⟨Qkm 0 (bytesOf r.f2),(B.2.1.length:Int)%4294967296⟩])
def freshB(e s n:Int):Bd:=((e,s,n,Qvd e s n,0),Qmr e s n,[])
theorem Qxd{e s:Int}(h:Good e s)(n:Int)(h0:0≤n)(h1:n<s):newB e s n=some (freshB e s n):=by
 unfold newB;rw[Qvt h n h0 h1,Option.bind_some,Qvs h n h0 h1,Option.bind_some];simp[freshB]
theorem Qxe(e s n:Int)(i:Nat):okB e s n i (freshB e s n):=by
 have:=Qvf e s n;refine⟨by simp[freshB,Qvd],by simp[freshB],by simp[freshB],by simp[freshB],?_⟩;unfold Qvd at this;simp only[freshB];omega
theorem Qxf{e s:Int}(h:Good e s){x:Int}(hx1:x≤1152921504606846976)(hf:Qvo e (Qvd e s (s-1)) 0 x=true):Qcb.f e s x=some false:=by
 have hr:=Qvf e s (s-1);have hg:=h;obtain⟨g1,g2,g3,g4⟩:=hg;unfold Qcb.f;rw[show(s-1)%4294967296=s-1 by omega,Qvt h (s-1) (by omega) (by omega),Option.bind_some];dsimp only;rw[if_pos rfl,Qvp h _ _ _ _ (by omega) (by omega) (by omega) (by omega) hx1,hf];rfl
theorem Qxg{e s n:Int}(h:Good e s){i:Nat}{B:Bd}{r:Rec}(hB:okB e s n i B)(hi:i≤1000000)(hc:chkR r=0)(hw:0≤r.f1∧r.f1<18446744073709551616)
  (hl:Qvo e (Qvd e s (s-1)) 0 (fsz r)=true) (hf:Qvo e (B.2.1.length:Int) (B.2.2.length:Int) (fsz r)=true) :
  addB B r=some (putB e s n B r)∧okB e s n (i+1) (putB e s n B r)∧((putB e s n B r).2.1.length:Int)+Qvh ((putB e s n B r).2.2.length:Int)≤szN e∧(putB e s n B r).2.2≠[]:=by
 obtain⟨b1,b2,b3,b4,b5⟩:=hB;have hx:=Qwj r hc;have hft:=Qvq hf;have hsz:=Qvk h.1 h.2.1;have hm:=Qvn ((B.2.2.length:Int)+1) (by omega) (by omega);have hlen:((B.2.1++Qwg r).length:Int)=(B.2.1.length:Int)+fsz r:=by rw[List.length_append];unfold fsz;omega
 have hh:=Qml 0 (bytesOf r.f2);have hmod:(B.2.1.length:Int)%4294967296=(B.2.1.length:Int):=by omega
 refine⟨?_,⟨?_,?_,?_,?_,?_⟩,?_,?_⟩
 ·unfold addB;rw[if_pos (show chk r.f0 r.f2 r.f3=0 from hc),Qwk r hc hw.1 hw.2,Option.bind_some,b1];dsimp only;rw[show((Qwg r).length:Int)=fsz r from rfl,Qxf h (by omega) hl,Option.bind_some,Qvr h n _ _ _ (by omega) (by omega) (by omega) (by omega) (by omega) hf,Option.bind_some];dsimp only;rw[if_pos ⟨rfl,rfl,rfl,by have hfz:((Qwg r).length:Int)=fsz r:=rfl;omega,by omega⟩];unfold putB;rw[hlen];simp
 ·simp[putB]
 ·simp only[putB,List.length_append,List.length_cons,List.length_nil];omega
 ·intro x hxm;simp only[putB]at hxm ⊢;rw[hlen]
  rcases List.mem_append.1 hxm with hm' | hm'
  ·have:=b3 x hm';exact⟨this.1,by omega⟩
  ·simp only[List.mem_singleton]at hm';subst hm';rw[hmod];exact⟨⟨hh,(show(0:Int)≤(B.2.1.length:Int)by omega),(show(B.2.1.length:Int)<4294967296 by omega)⟩,by dsimp only;omega⟩
 ·simp only[putB];rw[List.pairwise_append];refine⟨b4,by simp,?_⟩;intro x hx y hy;simp only[List.mem_singleton]at hy;subst hy;rw[hmod];exact(b3 x hx).2
 ·simp only[putB];rw[hlen];omega
 ·simp only[putB];rw[hlen,List.length_append];simp only[List.length_cons,List.length_nil];have:(((B.2.2.length+(0+1):Nat)):Int)=(B.2.2.length:Int)+1:=by omega
  rw[this];omega
 ·simp[putB]
theorem Qxh(u:Int){l:List Ent}(h:∀x∈l,x.f1<u):(Qor l).any (fun x=>decide (u≤x.f1))=false:=by
 rw[List.any_eq_false];intro x hx;have:=h x ((Qpb l).mem_iff.1 hx);simp;omega
theorem Qxi{l:List Ent}(h:l.Pairwise (fun x y=>x.f1<y.f1)):l.Nodup:=h.imp (fun {a b} hab he=>by subst he;omega)
theorem Qxj{e s n:Int}(h:Good e s){i:Nat}{B:Bd}(hB:okB e s n i B)(hi:i≤1000000)(hne:B.2.2≠[])(hr:(B.2.1.length:Int)+Qvh (B.2.2.length:Int)≤szN e) :
  ∃o,Qpu B=some o∧o.length=(szN e).toNat∧B.2.1 <+: o:=by
 obtain⟨b1,b2,b3,b4,b5⟩:=hB;have hsz:=Qvk h.1 h.2.1;have hu:Qpt B=(B.2.1.length:Int):=by unfold Qpt;omega
 have hfl:=Qwx (Qpt B) (Qor B.2.2);rw[Qos]at hfl;have hn0:B.2.2.length≠0:=fun he=>hne (List.eq_nil_of_length_eq_zero he)
 have hck:Qpj (Qpt B) (Qor B.2.2)=0:=by
  unfold Qpj;rw[Qos,if_neg hn0,if_neg (by omega),Qxc (Qxi b4),if_neg (by simp),Qxh _ (fun x hx=>by rw[hu];exact(b3 x hx).2),if_neg (by simp)]
 unfold Qpu;rw[b1];dsimp only;rw[Qvl h,Option.bind_some,if_pos ⟨hn0,by omega,fun x hx=>(b3 x hx).1,hck,by omega,by omega⟩];refine⟨_,rfl,?_,?_⟩
 ·rw[List.length_append,List.length_replicate,List.length_append];omega
 ·rw[List.append_assoc];exact List.prefix_append _ _
theorem Qxk{e s n:Int}(h:Good e s){i:Nat}{B:Bd}(hB:okB e s n i B)(hr:(B.2.1.length:Int)≤szN e) :
  ∃o,Qpv B=some o∧o.length=(szN e).toNat∧B.2.1 <+: o:=by
 obtain⟨b1,b2,b3,b4,b5⟩:=hB;have hsz:=Qvk h.1 h.2.1;unfold Qpv;rw[b1];dsimp only;rw[Qvl h,Option.bind_some,if_pos ⟨by omega,by omega⟩];refine⟨_,rfl,?_,List.prefix_append _ _⟩;rw[List.length_append,List.length_replicate];omega
theorem Qxl(e s:Int):∀(l out:List Int) (n u c:Int),(Qvv e s l out n u c).2=0→out <+: (Qvv e s l out n u c).1
 | [],out,n,u,c,h=>by unfold Qvv;exact List.prefix_rfl
 | x :: t,out,n,u,c,h=>by
  unfold Qvv at h ⊢
  by_cases hf:Qvo e (Qvd e s (s-1)) 0 x=false
  ·rw[if_pos hf]at h;cases h
  ·rw[if_neg hf]at h ⊢
   by_cases hq:Qvo e u c x=true
   ·rw[if_pos hq]at h ⊢;exact(List.prefix_append _ _).trans (Qxl e s t _ _ _ _ h)
   ·rw[if_neg hq]at h ⊢
    by_cases hs:n+1<s
    ·rw[if_pos hs]at h ⊢;exact(List.prefix_append _ _).trans (Qxl e s t _ _ _ _ h)
    ·rw[if_neg hs]at h;cases h
theorem Qxm{into:List Int}{i:Nat}{x:Int}(h:into.take i++[x] <+: into)(hi:i<into.length):rd into (i:Int)=x∧into.take (i+1)=into.take i++[x]:=by
 obtain⟨t,ht⟩:=h;have h1:=congrArg (fun l=>l[i]?) ht;have h2:(into.take i).length=i:=by rw[List.length_take];omega
 have h3:(into.take i++[x]++t)[i]? = some x:=by
  rw[List.append_assoc,List.getElem?_append_right (by omega),h2,Nat.sub_self];rfl
 rw[h3]at h1;refine⟨?_,?_⟩
 ·rw[Qkv hi];have h4:=List.getElem?_eq_getElem hi;rw[← h1]at h4;exact(Option.some.inj h4).symm
 ·rw[List.take_add_one,← h1];rfl
theorem Qxn{e s n:Int}(h:Good e s)(h1:n<s):n.toNat*(szN e).toNat+(szN e).toNat≤lim:=by
 have hsz:=Qvk h.1 h.2.1;obtain⟨g1,g2,g3,g4⟩:=h;have:(n.toNat+1)*(szN e).toNat≤65536*16777216:=Nat.mul_le_mul (by omega) (by omega);rw[Nat.add_mul,Nat.one_mul]at this;unfold lim;omega
def Qxo(e s n:Int):Bd→List Rec→Bd
 | B,[]=>B
 | B,r :: t=>Qxo e s n (putB e s n B r) t
def Qxp(B:Bd)(b:Bool):List Int:=B.2.1++(if b=true then Qpm (Qpt B) (Qor B.2.2)else [])
theorem Bytes.app{a b:List Int}(h1:Bytes a)(h2:Bytes b):Bytes (a++b):=fun x hx=>(List.mem_append.1 hx).elim (h1 x) (h2 x)
theorem Bytes.cons{a:Int}{b:List Int}(h1:0≤a∧a<256)(h2:Bytes b):Bytes (a :: b):=fun x hx=>by
 rcases List.mem_cons.1 hx with rfl|hx
 ·exact h1
 ·exact h2 x hx
theorem Qxq:∀(n:Nat) (x:Int),Bytes (leb x n)
 | 0,_=>fun y hy=>by cases hy
 | n+1,x=>(Qxq n (x/256)).cons (by omega)
end Go.Proofs.YtepkfjmjidjedaaGreat.CodecP
end
