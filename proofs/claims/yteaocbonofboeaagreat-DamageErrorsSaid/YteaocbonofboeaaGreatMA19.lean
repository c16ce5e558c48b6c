/- Merged texts. -/
import Derived.Test.YteaocbonofboeaaGreatMA12
import Derived.Test.YteaocbonofboeaaGreatMA06
import Derived.Test.YteaocbonofboeaaGreatMA08
import Derived.Laws.Bits64b
import Derived.Test.YteaocbonofboeaaGreatMA03
import Derived.Test.YteaocbonofboeaaGreatMA09
set_option linter.unusedVariables false
set_option linter.unusedSimpArgs false
set_option maxHeartbeats 8000000
set_option maxRecDepth 100000
section
namespace Go.Proofs.YteaocbonofboeaaGreat.CodecP
open Go.RowKit Go.Proofs.YteaocbonofboeaaGreat.C Go.Proofs.YteaocbonofboeaaGreatW.PrintWords Go.Proofs.YteaocbonofboeaaGreatW.PrintLast Go.Proofs.YteaocbonofboeaaGreatW.PrintMore
def rotN(x n:Nat):Nat:=(x%2^(64-n))*2^n+x/2^(64-n)
theorem Qri(x n:Nat)(hx:x<2^64)(hn:n≤64):rotN x n<2^64:=by
 unfold rotN;have hp:(2:Nat)^(64-n)*2^n=2^64:=by rw[← Nat.pow_add];congr 1;omega
 have h1:x%2^(64-n)<2^(64-n):=Nat.mod_lt _ (Nat.two_pow_pos _);have h2:x/2^(64-n)<2^n:=by rw[Nat.div_lt_iff_lt_mul (Nat.two_pow_pos _),Nat.mul_comm,hp];exact hx
 have h3:(x%2^(64-n))*2^n+2^n≤2^(64-n)*2^n:=by
  rw[← Nat.succ_mul];exact Nat.mul_le_mul_right _ h1
 omega
theorem Qrj(x i:Nat)(hx:x<2^64)(hi:i<64):(2*rotN x i)%2^64+rotN x i/2^63=rotN x (i+1):=by
 unfold rotN;obtain⟨m,hm⟩:∃m,m=63-i:=⟨_,rfl⟩;rw[show 64-i=m+1 by omega,show 64-(i+1)=m by omega];have hp:(2:Nat)^m*2^i=2^63:=by rw[← Nat.pow_add];congr 1;omega
 rw[Nat.pow_succ 2 m,Nat.pow_succ 2 i];generalize hP:(2:Nat)^m=P at *;generalize hQ:(2:Nat)^i=Q at *;have hP0:0<P:=by rw[← hP];exact Nat.two_pow_pos _
 have hQ0:0<Q:=by rw[← hQ];exact Nat.two_pow_pos _
 obtain⟨a,ha⟩:∃a,a=x/(P*2):=⟨_,rfl⟩;obtain⟨b,hb⟩:∃b,b=x%(P*2):=⟨_,rfl⟩;have hxab:x=P*2*a+b:=by rw[ha,hb];exact(Nat.div_add_mod x (P*2)).symm
 have hbl:b<P*2:=by rw[hb];exact Nat.mod_lt _ (by omega)
 have haQ:a<Q:=by
  rw[ha,Nat.div_lt_iff_lt_mul (by omega),Nat.mul_comm,Nat.mul_assoc,Nat.mul_comm 2 Q,← Nat.mul_assoc,hp];omega
 obtain⟨c,hc⟩:∃c,c=b/P:=⟨_,rfl⟩;obtain⟨d,hd⟩:∃d,d=b%P:=⟨_,rfl⟩;have hbcd:b=P*c+d:=by rw[hc,hd];exact(Nat.div_add_mod b P).symm
 have hdl:d<P:=by rw[hd];exact Nat.mod_lt _ hP0
 have hcl:c<2:=by rw[hc,Nat.div_lt_iff_lt_mul hP0,Nat.mul_comm];exact hbl
 have hxP:x/P=2*a+c:=by
  rw[hxab,hbcd,show P*2*a+(P*c+d)=P*(2*a+c)+d by rw[Nat.mul_add,Nat.mul_assoc,Nat.add_assoc],Nat.mul_add_div hP0,Nat.div_eq_of_lt hdl];rfl
 have hxm:x%P=d:=by
  rw[hxab,hbcd,show P*2*a+(P*c+d)=P*(2*a+c)+d by rw[Nat.mul_add,Nat.mul_assoc,Nat.add_assoc],Nat.mul_add_mod,Nat.mod_eq_of_lt hdl]
 rw[← ha,← hb,hxP,hxm];have he:d*Q+a<2^63:=by
  have:d*Q+Q≤P*Q:=by rw[← Nat.succ_mul];exact Nat.mul_le_mul_right _ hdl
  omega
 have hbq:b*Q+a=2^63*c+(d*Q+a):=by
  rw[hbcd,Nat.add_mul,Nat.mul_assoc,Nat.mul_comm c Q,← Nat.mul_assoc,hp,Nat.add_assoc]
 rw[hbq,show d*(Q*2)=2*(d*Q)by rw[← Nat.mul_assoc,Nat.mul_comm]];generalize d*Q=q at *;clear hp hbq hxab hbcd hbl;have:c=0∨c=1:=by omega
 rcases this with rfl|rfl<;>omega
theorem Qrk(x n:Nat)(hx:x<2^64)(h0:0<n)(hn:n<64):rotP (x:Int) (n:Int)=(rotN x n:Nat):=by
 have hand:Go.bits .and .u64 (IntKind.u64.wrap (n:Int)) 63=(n:Int):=by
  rw[IntWalk.u64_in _ (by omega),show(63:Int)=((63:Nat):Int) from rfl,bits_and_u64_nat _ _ (by omega) (by decide)];have:=Nat.and_two_pow_sub_one_eq_mod n 6;rw[show(63:Nat)=2^6-1 from rfl,this,Nat.mod_eq_of_lt (by omega)]
 have h:=Qld (x:Int) (n:Int) ⟨by omega,by omega,hand⟩;unfold Qad.f at h;rw[hand,if_pos (by omega),IntWalk.u64_in _ (by omega),if_pos (by omega),Option.some_inj]at h;rw[← h];unfold shl shr rotN;have e1:min (n:Int).toNat IntKind.u64.bits=n:=by simp[IntKind.bits];omega
 have e2:min ((64:Int)-(n:Int)).toNat IntKind.u64.bits=64-n:=by simp[IntKind.bits]<;>omega
 rw[e1,e2,IntKind.wrap_u64];have e3:((x:Int)*2^n)%18446744073709551616=(((x%2^(64-n))*2^n:Nat):Int):=by
  rw[← Nat.mul_mod_mul_right,← Nat.pow_add,show 64-n+n=64 by omega];rw[Int.natCast_emod,Int.natCast_mul,Int.natCast_pow];rfl
 have e4:(x:Int)/2^(64-n)=((x/2^(64-n):Nat):Int):=by rw[Int.natCast_ediv,Int.natCast_pow];rfl
 rw[e3,e4];have hp:(2:Nat)^(64-n)*2^n=2^64:=by rw[← Nat.pow_add];congr 1;omega
 have h1:x%2^(64-n)<2^(64-n):=Nat.mod_lt _ (Nat.two_pow_pos _);have h2:x/2^(64-n)<2^n:=by rw[Nat.div_lt_iff_lt_mul (Nat.two_pow_pos _),Nat.mul_comm,hp];exact hx
 have h3:(x%2^(64-n))*2^n+2^n≤2^(64-n)*2^n:=by
  rw[← Nat.succ_mul];exact Nat.mul_le_mul_right _ h1
 have hq:=Nat.two_pow_pos n;rw[bits_or_u64_nat _ _ (by omega) (by omega)]
 congr 1
 rw[Nat.mul_comm,← Nat.two_pow_add_eq_or_of_lt h2]
theorem Qrl(x n:Nat)(hx:x<2^64)(hn:n≤64):Qlm (x:Int) n=(rotN x n:Nat):=by
 have key:∀(d i:Nat),i+d=n→Qbn.l0 (d+1) ((rotN x i:Nat):Int) (n:Int) (i:Int)=some ((rotN x n:Nat):Int):=by
  intro d
  induction d with
  | zero =>
   intro i h;unfold Qbn.l0;obtain rfl:i=n:=by omega
   rw[if_neg (by omega)]
  | succ d ih =>
   intro i h;unfold Qbn.l0;rw[if_pos (by omega),show wrap64 ((i:Int)+1)=((i+1:Nat):Int)by unfold wrap64;omega];have hl:=Qri x i hx (by omega);have hs:=Qrj x i hx (by omega);have e:IntKind.u64.wrap ((IntKind.u64.wrap (2*((rotN x i:Nat):Int)))+(IntKind.u64.wrap (Int.tdiv ((rotN x i:Nat):Int) 9223372036854775808)))=((rotN x (i+1):Nat):Int):=by
    rw[← hs,Int.tdiv_eq_ediv_of_nonneg (by omega)];generalize rotN x i=y at *;simp only[IntKind.wrap_u64];omega
   rw[e];exact ih (i+1) (by omega)
 have h0:rotN x 0=x:=by simp[rotN,Nat.mod_eq_of_lt hx,Nat.div_eq_of_lt hx]
 have:=key n 0 (by omega);rw[h0]at this;unfold Qlm Qbn.f;rw[show((0:Nat):Int)=0 from rfl]at this;rw[this];rfl
theorem Qrm(x:Int)(n:Nat)(hx0:0≤x)(hx:x<18446744073709551616)(h0:0<n)(hn:n<64):Qlm x n=rotP x (n:Int):=by
 obtain⟨y,rfl⟩:=Int.eq_ofNat_of_zero_le hx0;rw[Qrl y n (by omega) (by omega),Qrk y n (by omega) h0 hn]
theorem u64r(x:Int):0≤IntKind.u64.wrap x∧IntKind.u64.wrap x<18446744073709551616:=by
 rw[IntKind.wrap_u64];omega
theorem Qrn(x y:Int):Qlo x y=Qle x y:=by
 unfold Qlo Qle Qbl.f Qdg.f;rw[show(32:Nat)=31+1 from rfl,show(31:Int)=((31:Nat):Int) from rfl,Qln _ 31 (by omega)];have hw:=u64r (x+(IntKind.u64.wrap (y*14029467366897019727)));rw[Qrm _ 31 hw.1 hw.2 (by omega) (by omega),Qld _ _ ⟨by decide,by decide,by kernel_rfl⟩]
def leI:List Int→Int
 | []=>0
 | b :: l=>b+256*leI l
def Bytes(l:List Int):Prop:=∀x∈l,0≤x∧x<256
theorem Qro(s:ByteArray):Bytes (bytesOf s):=by
 intro x hx;unfold bytesOf at hx;obtain⟨b,_,rfl⟩:=List.mem_map.1 hx;have:=b.toNat_lt;omega
theorem Bytes.drop{l:List Int}(h:Bytes l)(n:Nat):Bytes (l.drop n):=fun x hx=>h x (List.mem_of_mem_drop hx)
theorem Bytes.take{l:List Int}(h:Bytes l)(n:Nat):Bytes (l.take n):=fun x hx=>h x (List.mem_of_mem_take hx)
theorem Qrp{l:List Int}(h:Bytes l):0≤leI l∧leI l<256^l.length:=by
 induction l with
 | nil=>simp[leI]
 | cons b l ih =>
  have h1:=ih (fun x hx=>h x (List.mem_cons_of_mem _ hx));have h2:=h b (List.mem_cons_self ..);simp only[leI,List.length_cons,Int.pow_succ];omega
theorem Qrq(l:List Int)(b:Int):leI (l++[b])=leI l+256^l.length*b:=by
 induction l with
 | nil=>simp[leI]
 | cons a l ih=>simp only[List.cons_append,leI,ih,List.length_cons,Int.pow_succ];rw[Int.mul_add,Int.mul_comm (256^l.length) 256,Int.mul_assoc];omega
theorem rd_get{l:List Int}{i:Nat}(h:i<l.length):rd l (i:Int)=l[i]:=by simp[rd,List.getD,List.getElem?_eq_getElem h]
theorem Qrr{l:List Int}{i:Nat}(h:i<l.length):l.take (i+1)=l.take i++[rd l (i:Int)]:=by rw[List.take_succ_eq_append_getElem h,rd_get h]
theorem rd_range{l:List Int}(hb:Bytes l){i:Nat}(h:i<l.length):0≤rd l (i:Int)∧rd l (i:Int)<256:=by rw[rd_get h];exact hb _ (List.getElem_mem h)
theorem num_le(n:Nat)(hn:n≤8)(l:List Int)(hb:Bytes l)(hl:n≤l.length):numP n l=leI (l.take n):=by
 have key:∀(d i:Nat),i+d=n→Qdh.l0 (d+1) l (leI (l.take i)) (n:Int) (i:Int)=some (leI (l.take n)):=by
  intro d
  induction d with
  | zero =>
   intro i h;unfold Qdh.l0;obtain rfl:i=n:=by omega
   rw[if_neg (by omega)]
  | succ d ih =>
   intro i h;unfold Qdh.l0;have hw:wrap64 (8*(i:Int))=((8*i:Nat):Int):=by unfold wrap64;omega
   rw[if_pos (by omega),if_pos (by omega),if_pos (by omega),hw,if_pos (by omega),show wrap64 ((i:Int)+1)=((i+1:Nat):Int)by unfold wrap64;omega];have hr:=Qrp (hb.take i);have hlen:(l.take i).length=i:=by rw[List.length_take];omega
   rw[hlen]at hr;have hd:=rd_range hb (show i<l.length by omega);have e:Go.bits .or .u64 (leI (l.take i)) (shl .u64 (IntKind.u64.wrap (rd l (i:Int))) ((8*i:Nat):Int))=leI (l.take (i+1)):=by
    rw[Qrr (by omega),Qrq,hlen,IntWalk.u64_in _ (by omega)];generalize rd l (i:Int)=b at *;generalize leI (l.take i)=a at *;obtain⟨a,rfl⟩:=Int.eq_ofNat_of_zero_le hr.1;obtain⟨b,rfl⟩:=Int.eq_ofNat_of_zero_le hd.1;have hp:(256:Nat)^i=2^(8*i):=by rw[Nat.pow_mul]
    have ha:a<2^(8*i):=by
     have:=hr.2;rw[← hp]
     exact_mod_cast this
    have hbig:b*2^(8*i)<2^64:=by
     have h1:b*2^(8*i)<2^8*2^(8*i):=Nat.mul_lt_mul_of_pos_right (by omega) (Nat.two_pow_pos _);have h2:(2:Nat)^8*2^(8*i)≤2^64:=by rw[← Nat.pow_add];exact Nat.pow_le_pow_right (by omega) (by omega)
     omega
    have ha2:a<2^64:=by
     have h2:(2:Nat)^(8*i)≤2^64:=Nat.pow_le_pow_right (by omega) (by omega);omega
    unfold shl;rw[show min ((8*i:Nat):Int).toNat IntKind.u64.bits=8*i by simp[IntKind.bits];omega,IntKind.wrap_u64];have e1:((b:Int)*2^(8*i))%18446744073709551616=((2^(8*i)*b:Nat):Int):=by
     have e2:((b:Int)*2^(8*i))=((b*2^(8*i):Nat):Int):=by push_cast;rfl
     rw[e2,Nat.mul_comm (2^(8*i)) b];omega
    rw[e1,bits_or_u64_nat _ _ (by omega) (by rw[Nat.mul_comm];omega),Nat.or_comm,← Nat.two_pow_add_eq_or_of_lt ha];have e3:((256:Int)^i*(b:Int))=((256^i*b:Nat):Int):=by push_cast;rfl
    rw[e3,hp];omega
   rw[e];exact ih (i+1) (by omega)
 have:=key n 0 (by omega);unfold numP Qdh.f;rw[show leI (l.take 0)=0 from rfl,show((0:Nat):Int)=0 from rfl]at this;rw[this];rfl
theorem Qrs(s:ByteArray)(a b:Nat):bytesOf (s.extract a b)=((bytesOf s).drop a).take (b-a):=by
 unfold bytesOf;rw[← List.map_drop,← List.map_take]
 congr 1
 have:(s.extract a b).data=s.data.extract a b:=by simp
 rw[this,Array.toList_extract]
theorem Qrt(s:ByteArray):s.size=(bytesOf s).length:=(Qdv s).symm
theorem val_le(s:ByteArray)(hs:s.size≤8):rval s=leI (bytesOf s):=by
 have hB:=Qro s;have hlen:=Qdv s;have key:∀(d:Nat) (x:Int),d≤s.size→0≤x→x*256^d+leI ((bytesOf s).take d)<18446744073709551616 →
   Qbg.l0 (d+1) s x ((d:Int)-1)=some (x*256^d+leI ((bytesOf s).take d)):=by
  intro d
  induction d with
  | zero =>
   intro x h h0 hx;unfold Qbg.l0;rw[if_neg (by omega)];simp[leI]
  | succ d ih =>
   intro x h h0 hx;unfold Qbg.l0;rw[show((d+1:Nat):Int)-1=(d:Int)by omega,if_pos (by omega),if_pos (by omega),if_pos (by omega),show wrap64 ((d:Int)-1)=(d:Int)-1 by unfold wrap64;omega];have hd:=rd_range hB (show d<(bytesOf s).length by omega);have hr:=Qrp (hB.take d);rw[Qdw]at hd;have e2:leI ((bytesOf s).take (d+1))=leI ((bytesOf s).take d)+256^d*bt s (d:Int):=by
    rw[Qrr (by omega),Qrq,Qdw,List.length_take,Nat.min_eq_left (by omega)]
   have e3:x*256^(d+1)+leI ((bytesOf s).take (d+1))=(x*256+bt s (d:Int))*256^d+leI ((bytesOf s).take d):=by
    rw[e2,Int.pow_succ,Int.add_mul,Int.mul_comm (256^d) 256,← Int.mul_assoc,Int.mul_comm (256^d) (bt s (d:Int))];omega
   rw[e3]at hx ⊢;have hpow:(1:Int)≤256^d:=by
    have:=Nat.one_le_pow d 256 (by omega)
    exact_mod_cast this
   have hle:x*256+bt s (d:Int)≤(x*256+bt s (d:Int))*256^d:=by
    have h1:0≤x*256+bt s (d:Int):=by omega
    calc x*256+bt s (d:Int)=(x*256+bt s (d:Int))*1:=by omega
     _≤_:=Int.mul_le_mul_of_nonneg_left hpow h1
   have e4:IntKind.u64.wrap ((IntKind.u64.wrap (x*256))+(IntKind.u64.wrap (bt s (d:Int))))=x*256+bt s (d:Int):=by
    rw[IntWalk.u64_in (x*256) (by omega),IntWalk.u64_in (bt s (d:Int)) (by omega),IntWalk.u64_in _ (by omega)]
   rw[e4];exact ih (x*256+bt s (d:Int)) (by omega) (by omega) hx
 have hr:=Qrp hB;have hp:(256:Int)^(bytesOf s).length≤18446744073709551616:=by
  have h1:(256:Nat)^(bytesOf s).length≤256^8:=Nat.pow_le_pow_right (by omega) (by omega);have h2:(256:Nat)^8=18446744073709551616:=by decide
  rw[h2]at h1;have h3:((256^(bytesOf s).length:Nat):Int)≤((18446744073709551616:Nat):Int):=Int.ofNat_le.2 h1;rw[Int.natCast_pow]at h3;exact h3
 have hall:(bytesOf s).take s.size=bytesOf s:=List.take_of_length_le (by omega);have h:=key s.size 0 (Nat.le_refl _) (Int.le_refl _) (by rw[hall];omega);rw[hall]at h;unfold rval Qbg.f;rw[show wrap64 ((s.size:Int)-1)=(s.size:Int)-1 by unfold wrap64;omega,h];simp
theorem val_ext(s:ByteArray)(a b:Nat)(h:b-a≤8):rval (s.extract a b)=leI (((bytesOf s).drop a).take (b-a)):=by
 rw[val_le _ (Nat.le_trans (Qma s a b) h),Qrs]
theorem Qru(s:ByteArray)(a n:Nat)(hn:n≤8)(h:a+n≤s.size):rval (s.extract a (a+n))=numP n ((bytesOf s).drop a):=by
 rw[val_ext s a (a+n) (by omega),num_le n hn _ ((Qro s).drop a) (by rw[List.length_drop,Qdv];omega),Nat.add_sub_cancel_left]
def R64(x:Int):Prop:=0≤x∧x<18446744073709551616
def RV(v:V4):Prop:=R64 v.1∧R64 v.2.1∧R64 v.2.2.1∧R64 v.2.2.2
theorem Qrv(x y:Int):R64 (Qle x y):=by
 unfold Qle Qdg.f;rw[Qld _ _ ⟨by decide,by decide,by kernel_rfl⟩];exact u64r _
theorem Qrw(v:V4)(l:List Int):RV (Qlf v l):=⟨Qrv _ _,Qrv _ _,Qrv _ _,Qrv _ _⟩
theorem Qrx(v:V4)(s:ByteArray)(h:32≤s.size):Qls v s=Qlf v (bytesOf s):=by
 unfold Qls Qlf;have h0:=Qru s 0 8 (by omega) (by omega);have h1:=Qru s 8 8 (by omega) (by omega);have h2:=Qru s 16 8 (by omega) (by omega);have h3:=Qru s 24 8 (by omega) (by omega);simp only[Qrn];rw[show(8:Nat)=0+8 from rfl,h0,show(0+8:Nat)=8 from rfl,h1,h2,h3];rfl
theorem Qry:∀(m:Nat) (v:V4) (s:ByteArray),32*m≤s.size→RV v→(rrun m v s).1=Qlg m v (bytesOf s)∧bytesOf (rrun m v s).2=(bytesOf s).drop (32*m)∧RV (Qlg m v (bytesOf s))
 | 0,v,s,_,hv=>⟨rfl,by simp[rrun],hv⟩
 | m+1,v,s,h,hv=>by
  have hsz:(s.extract 32 s.size).size=s.size-32:=by simp
  have hb:bytesOf (s.extract 32 s.size)=(bytesOf s).drop 32:=by
   rw[Qrs];exact List.take_of_length_le (by rw[List.length_drop,Qdv];omega)
  obtain⟨h1,h2,h3⟩:=Qry m (Qls v s) (s.extract 32 s.size) (by omega) (by rw[Qrx v s (by omega)];exact Qrw _ _);rw[hb,Qrx v s (by omega)]at h1 h3;refine⟨?_,?_,h3⟩
  ·show(rrun m (Qls v s) (s.extract 32 s.size)).1=Qlg m (Qlf v (bytesOf s)) ((bytesOf s).drop 32);rw[Qrx v s (by omega)];exact h1
  ·show bytesOf (rrun m (Qls v s) (s.extract 32 s.size)).2=_;rw[h2,hb,List.drop_drop]
   congr 1
   omega
theorem rotP_r(x:Int)(n:Nat)(hx:R64 x)(h0:0<n)(hn:n<64):R64 (rotP x (n:Int)):=by
 obtain⟨hx0,hx1⟩:=hx;obtain⟨y,rfl⟩:=Int.eq_ofNat_of_zero_le hx0;rw[Qrk y n (by omega) h0 hn];have:=Qri y n (by omega) (by omega);unfold R64;omega
theorem Qrz(V:V4)(hV:RV V):rsum V=Qnc 4 V:=by
 obtain⟨h1,h2,h3,h4⟩:=hV;rw[Qni,Qnh,Qng,Qnf,Qne];unfold rsum;have r1:=rotP_r V.1 1 h1 (by omega) (by omega);rw[Qrm _ 1 h1.1 h1.2 (by omega) (by omega),Qrm _ 7 h2.1 h2.2 (by omega) (by omega),Qrm _ 12 h3.1 h3.2 (by omega) (by omega),Qrm _ 18 h4.1 h4.2 (by omega) (by omega)];rw[Int.zero_add,show((1:Nat):Int)=1 from rfl,show((7:Nat):Int)=7 from rfl,show((12:Nat):Int)=12 from rfl,show((18:Nat):Int)=18 from rfl];rw[show((1:Nat):Int)=1 from rfl]at r1;rw[IntWalk.u64_in (rotP V.1 1) ⟨r1.1,by have:=r1.2;omega⟩]
theorem Qsa(h:Int)(V:V4):rmix h V=Qnd 4 h V:=by
 rw[Qnn,Qnm,Qnl,Qnk,Qnj];unfold rmix Qlt mixP;simp only[Qrn]
theorem Qsb{k:Nat}(x:Int)(n:Nat)(hx:R64 x)(h0:0<n)(hn:n<64)(hk:n+1≤k):Qbn.f k x (n:Int)=some (rotP x (n:Int)):=by
 rw[← Qrm x n hx.1 hx.2 h0 hn];exact Qeb (g:=fun k=>Qbn.f k x (n:Int)) (Qbn.mono x (n:Int)) hk (Qln x n (by omega))
theorem into_k{k:Nat}(x y:Int)(hk:32≤k):Qbl.f k x y=some (Qle x y):=by
 rw[← Qrn];exact Qeb (g:=fun k=>Qbl.f k x y) (Qbl.mono x y) hk (Qlp x y)
theorem val_k{k:Nat}(s:ByteArray)(a n:Nat)(hn:n≤8)(h:a+n≤s.size)(hk:9≤k):Qbg.f k (s.extract a (a+n))=some (numP n ((bytesOf s).drop a)):=by
 rw[← Qru s a n hn h];have hs:(s.extract a (a+n)).size≤8:=Nat.le_trans (Qma s a (a+n)) (by omega);exact Qeb (g:=fun k=>Qbg.f k (s.extract a (a+n))) (Qbg.mono _) (by omega) (Qlr _ (by omega))
theorem mix_k{k:Nat}(x:Int)(n:Nat)(hx:R64 x)(hn:n<64)(hk:n+1≤k):Qbm.f k x (n:Int)=some (Go.bits .xor .u64 x (x/2^n)):=by
 have key:∀(d i:Nat),i+d=n→Qbm.l0 (d+1) x (x/2^i) (n:Int) (i:Int)=some (Go.bits .xor .u64 x (x/2^n)):=by
  intro d
  induction d with
  | zero =>
   intro i h;unfold Qbm.l0;obtain rfl:i=n:=by omega
   rw[if_neg (by omega)]
  | succ d ih =>
   intro i h;unfold Qbm.l0;have hq:0≤x/2^i:=Int.ediv_nonneg hx.1 (Int.pow_nonneg (by decide));have hql:x/2^i≤x:=Int.ediv_le_self _ hx.1;have hx1:=hx.2;rw[if_pos (by omega),show wrap64 ((i:Int)+1)=((i+1:Nat):Int)by unfold wrap64;omega,Int.tdiv_eq_ediv_of_nonneg hq];have e:IntKind.u64.wrap (x/2^i/2)=x/2^(i+1):=by
    rw[IntWalk.u64_in _ (by omega),Int.pow_succ,Int.ediv_ediv_of_nonneg (Int.pow_nonneg (by decide))]
   rw[e];exact ih (i+1) (by omega)
 have h:=key n 0 (by omega);rw[show x/2^0=x by simp,show((0:Nat):Int)=0 from rfl]at h;exact Qeb (g:=fun k=>Qbm.f k x (n:Int)) (Qbm.mono x (n:Int)) hk h
theorem one1_r(h x:Int):R64 (one1 h x):=u64r _
theorem one4_r(h:Int)(l:List Int):R64 (one4 h l):=u64r _
theorem one8_r(h:Int)(l:List Int):R64 (one8 h l):=u64r _
theorem Qsc(op:BinOp)(x y:Int):R64 (Go.bits op .u64 x y):=(by unfold Go.bits;split<;>exact u64r _)
theorem fin_k{k:Nat}(h:Int)(hh:R64 h)(hk:34≤k):((Qbm.f k h 33).bind fun t335=>((Qbm.f k (IntKind.u64.wrap (t335*14029467366897019727)) 29).bind fun t336=>((Qbm.f k (IntKind.u64.wrap (t336*1609587929392839161)) 32).bind fun t337=>(some t337))))=some (finP h):=by
 rw[show(33:Int)=((33:Nat):Int) from rfl,mix_k h 33 hh (by omega) (by omega),Option.bind_some];rw[show(29:Int)=((29:Nat):Int) from rfl,mix_k _ 29 (u64r _) (by omega) (by omega),Option.bind_some];rw[show(32:Int)=((32:Nat):Int) from rfl,mix_k _ 32 (u64r _) (by omega) (by omega),Option.bind_some];rfl
theorem Qsd(s:ByteArray)(hs:s.size≤4611686018427387904):∀(d i k:Nat) (h:Int),i+d=s.size→R64 h→d+40≤k→Qbj.l2 k s h (i:Int)=some (finP (((bytesOf s).drop i).foldl one1 h))
 | 0,i,k,h,hi,hh,hk=>by
  obtain⟨k,rfl⟩:∃m,k=m+1:=⟨k-1,by omega⟩;unfold Qbj.l2;rw[if_neg (by omega),fin_k h hh (by omega),List.drop_of_length_le (by rw[Qdv];omega)];rfl
 | d+1,i,k,h,hi,hh,hk=>by
  obtain⟨k,rfl⟩:∃m,k=m+1:=⟨k-1,by omega⟩;unfold Qbj.l2;rw[if_pos (by omega),if_pos (by omega),show(11:Int)=((11:Nat):Int) from rfl,Qsb _ 11 (Qsc _ _ _) (by omega) (by omega) (by omega),Option.bind_some,show wrap64 ((i:Int)+1)=((i+1:Nat):Int)by unfold wrap64;omega];have:=Qsd s hs d (i+1) k (one1 h (bt s (i:Int))) (by omega) (one1_r _ _) (by omega);rw[List.drop_eq_getElem_cons (by rw[Qdv];omega),List.foldl_cons,← rd_get (l:=bytesOf s) (by rw[Qdv];omega),Qdw];exact this
theorem Qse(s:ByteArray)(hs:s.size<4)(k:Nat)(h:Int)(hh:R64 h)(hk:60≤k):Qbj.l1 k s h=some (finP ((bytesOf s).foldl one1 h)):=by
 obtain⟨k,rfl⟩:∃m,k=m+1:=⟨k-1,by omega⟩;unfold Qbj.l1;rw[if_neg (by omega)];have:=Qsd s (by omega) s.size 0 k h (by omega) hh (by omega);exact this
theorem Qsf(s:ByteArray)(a:Nat):(s.extract a s.size).size=s.size-a:=by simp
theorem Qsg(s:ByteArray)(a:Nat):bytesOf (s.extract a s.size)=(bytesOf s).drop a:=by
 rw[Qrs];exact List.take_of_length_le (by rw[List.length_drop,Qdv];omega)
theorem sum_l1(s:ByteArray)(hs:s.size<8)(k:Nat)(h:Int)(hh:R64 h)(hk:70≤k):Qbj.l1 k s h=some (if 4≤(bytesOf s).length then finP (((bytesOf s).drop 4).foldl one1 (one4 h (bytesOf s)))else finP ((bytesOf s).foldl one1 h)):=by
 by_cases h4:4≤s.size
 ·obtain⟨k,rfl⟩:∃m,k=m+1:=⟨k-1,by omega⟩;unfold Qbj.l1;rw[if_pos (by omega),if_pos (by omega),if_pos (by omega)];have hv:=val_k (k:=k) s 0 4 (by omega) (by omega) (by omega);rw[Nat.zero_add,List.drop_zero]at hv;rw[hv,Option.bind_some,show(23:Int)=((23:Nat):Int) from rfl,Qsb _ 23 (Qsc _ _ _) (by omega) (by omega) (by omega),Option.bind_some,if_pos (by rw[Qdv];omega),← Qsg];exact Qse (s.extract 4 s.size) (by rw[Qsf];omega) k (one4 h (bytesOf s)) (one4_r _ _) (by omega)
 ·rw[if_neg (by rw[Qdv];omega)];exact Qse s (by omega) k h hh (by omega)
theorem Qsh(h:Int)(l:List Int)(hl:8≤l.length):sumP h l=sumP (one8 h l) (l.drop 8):=by
 unfold sumP;obtain⟨m,hm⟩:∃m,l.length/8=m+1:=⟨l.length/8-1,by omega⟩;have hm':(l.drop 8).length/8=m:=by rw[List.length_drop];omega
 have hd:(l.drop 8).drop (8*m)=l.drop (8*(m+1)):=by rw[List.drop_drop];congr 1;omega
 rw[hm,hm',hd];rfl
theorem Qsi:∀(m k:Nat) (s:ByteArray) (h:Int),s.size/8=m→R64 h→m+90≤k→Qbj.l0 k s h=some (sumP h (bytesOf s))
 | 0,k,s,h,hm,hh,hk=>by
  obtain⟨k,rfl⟩:∃m,k=m+1:=⟨k-1,by omega⟩;unfold Qbj.l0;rw[if_neg (by omega),sum_l1 s (by omega) k h hh (by omega)];unfold sumP;rw[show(bytesOf s).length/8=0 by rw[Qdv];exact hm];simp only[Nat.mul_zero,List.drop_zero,Qns]
 | m+1,k,s,h,hm,hh,hk=>by
  obtain⟨k,rfl⟩:∃m,k=m+1:=⟨k-1,by omega⟩;unfold Qbj.l0;rw[if_pos (by omega),if_pos (by omega),if_pos (by omega)];have hv:=val_k (k:=k) s 0 8 (by omega) (by omega) (by omega);rw[Nat.zero_add,List.drop_zero]at hv;rw[hv,Option.bind_some,into_k _ _ (by omega),Option.bind_some,show(27:Int)=((27:Nat):Int) from rfl,Qsb _ 27 (Qsc _ _ _) (by omega) (by omega) (by omega),Option.bind_some];rw[Qsh h _ (by rw[Qdv];omega),← Qsg];exact Qsi m k (s.extract 8 s.size) (one8 h (bytesOf s)) (by rw[Qsf];omega) (one8_r _ _) (by omega)
theorem Qsj(sd:Int)(s:ByteArray)(k:Nat)(hsd:R64 sd)(hs:s.size≤4611686018427387904)(hk:s.size+100≤k):Qbj.f k sd s=some (Qnt sd (bytesOf s)):=by
 unfold Qbj.f Qnt;rw[Qdv,IntWalk.u64_in (s.size:Int) (by omega)]
 by_cases h32:32≤s.size
 ·rw[if_pos (by omega)];unfold Qbk.f;rw[if_pos (by omega),Option.bind_some];have hR:RV (Qlu sd):=⟨u64r _,u64r _,hsd,u64r _⟩;obtain⟨h1,h2,h3⟩:=Qry (s.size/32) (Qlu sd) s (by omega) hR;obtain⟨k,rfl⟩:∃m,k=m+1:=⟨k-1,by omega⟩;have hj:∀a b c,Qbj.j0 (k+1) a b c=Qbj.l0 k a (IntKind.u64.wrap (c+b)):=fun _ _ _=>rfl
  rw[hj];have hsz:(rrun (s.size/32) (Qlu sd) s).2.size=s.size-32*(s.size/32):=by
   rw[Qrt,h2,List.length_drop,Qdv]
  have:=Qsi _ k (rrun (s.size/32) (Qlu sd) s).2 (IntKind.u64.wrap (rmix (rsum (rrun (s.size/32) (Qlu sd) s).1) (rrun (s.size/32) (Qlu sd) s).1+(s.size:Int))) rfl (u64r _) (by rw[hsz];omega);rw[this,h2,h1,Qsa,Qrz _ h3];unfold Qno;rw[if_neg (by omega)];rfl
 ·rw[if_neg (by omega)];obtain⟨k,rfl⟩:∃m,k=m+1:=⟨k-1,by omega⟩;have hj:∀a b c,Qbj.j0 (k+1) a b c=Qbj.l0 k a (IntKind.u64.wrap (c+b)):=fun _ _ _=>rfl
  rw[hj,Qsi _ k s _ rfl (u64r _) (by omega),show s.size/32=0 by omega];unfold Qno;rw[if_pos (by omega)];rfl
theorem num_key(l:List Int)(hb:Bytes l)(c:l.length≤8):Qdh.l0 (l.length+1) l 0 (l.length:Int) 0=some (leI l):=by
 obtain⟨n,hl'⟩:∃n,n=l.length:=⟨_,rfl⟩;have hl:n≤l.length:=by omega
 have hn:n≤8:=by omega
 have key:∀(d i:Nat),i+d=n→Qdh.l0 (d+1) l (leI (l.take i)) (n:Int) (i:Int)=some (leI (l.take n)):=by
  intro d
  induction d with
  | zero =>
   intro i h;unfold Qdh.l0;obtain rfl:i=n:=by omega
   rw[if_neg (by omega)]
  | succ d ih =>
   intro i h;unfold Qdh.l0;have hw:wrap64 (8*(i:Int))=((8*i:Nat):Int):=by unfold wrap64;omega
   rw[if_pos (by omega),if_pos (by omega),if_pos (by omega),hw,if_pos (by omega),show wrap64 ((i:Int)+1)=((i+1:Nat):Int)by unfold wrap64;omega];have hr:=Qrp (hb.take i);have hlen:(l.take i).length=i:=by rw[List.length_take];omega
   rw[hlen]at hr;have hd:=rd_range hb (show i<l.length by omega);have e:Go.bits .or .u64 (leI (l.take i)) (shl .u64 (IntKind.u64.wrap (rd l (i:Int))) ((8*i:Nat):Int))=leI (l.take (i+1)):=by
    rw[Qrr (by omega),Qrq,hlen,IntWalk.u64_in _ (by omega)];generalize rd l (i:Int)=b at *;generalize leI (l.take i)=a at *;obtain⟨a,rfl⟩:=Int.eq_ofNat_of_zero_le hr.1;obtain⟨b,rfl⟩:=Int.eq_ofNat_of_zero_le hd.1;have hp:(256:Nat)^i=2^(8*i):=by rw[Nat.pow_mul]
    have ha:a<2^(8*i):=by
     have:=hr.2;rw[← hp]
     exact_mod_cast this
    have hbig:b*2^(8*i)<2^64:=by
     have h1:b*2^(8*i)<2^8*2^(8*i):=Nat.mul_lt_mul_of_pos_right (by omega) (Nat.two_pow_pos _);have h2:(2:Nat)^8*2^(8*i)≤2^64:=by rw[← Nat.pow_add];exact Nat.pow_le_pow_right (by omega) (by omega)
     omega
    have ha2:a<2^64:=by
     have h2:(2:Nat)^(8*i)≤2^64:=Nat.pow_le_pow_right (by omega) (by omega);omega
    unfold shl;rw[show min ((8*i:Nat):Int).toNat IntKind.u64.bits=8*i by simp[IntKind.bits];omega,IntKind.wrap_u64];have e1:((b:Int)*2^(8*i))%18446744073709551616=((2^(8*i)*b:Nat):Int):=by
     have e2:((b:Int)*2^(8*i))=((b*2^(8*i):Nat):Int):=by push_cast;rfl
     rw[e2,Nat.mul_comm (2^(8*i)) b];omega
    rw[e1,bits_or_u64_nat _ _ (by omega) (by rw[Nat.mul_comm];omega),Nat.or_comm,← Nat.two_pow_add_eq_or_of_lt ha];have e3:((256:Int)^i*(b:Int))=((256^i*b:Nat):Int):=by push_cast;rfl
    rw[e3,hp];omega
   rw[e];exact ih (i+1) (by omega)
 have h:=key n 0 (by omega);rw[show leI (l.take 0)=0 from rfl,show((0:Nat):Int)=0 from rfl,hl',List.take_length]at h;exact h
theorem byte_key(b:Int)(hb:0≤b∧b<256):∃k x,Qdh.l0 k [b] 0 (([b]:List Int).length:Int) 0=some x∧IntKind.u8.wrap x=b:=by
 refine⟨_,_,num_key [b] (fun y hy=>by rw[List.mem_singleton.1 hy];exact hb) (by simp),?_⟩;simp only[leI];rw[show b+256*0=b by omega];exact IntWalk.u8_in _ (by omega)
theorem Qul(a b:ByteArray):bytesOf (a++b)=bytesOf a++bytesOf b:=by
 unfold bytesOf;rw[← List.map_append]
 congr 1
theorem Qum{x:Int}(h:0≤x∧x<256):((UInt8.ofNat x.toNat).toNat:Int)=x:=by
 obtain⟨n,rfl⟩:=Int.eq_ofNat_of_zero_le h.1;simp[UInt8.toNat_ofNat'];omega
theorem bytesOf_nums{l:List Int}(h:Bytes l):bytesOf (strOfNums l)=l:=by
 unfold bytesOf;rw[strOfNums_data,List.map_map]
 conv=>rhs;rw[← List.map_id l]
 apply List.map_congr_left;intro x hx;exact Qum (h x hx)
theorem Qun{a b:ByteArray}(h:bytesOf a=bytesOf b):a=b:=by
 have h1:a.data.toList=b.data.toList:=by
  unfold bytesOf at h;exact List.map_inj_right (f:=fun b:UInt8=>(b.toNat:Int)) (fun x y hxy=>UInt8.toNat_inj.1 (Int.ofNat.inj hxy)) |>.1 h
 have h2:a.data=b.data:=Array.toList_inj.1 h1
 cases a;cases b;simp_all
theorem Quo(s:ByteArray):strOfNums (bytesOf s)=s:=Qun (bytesOf_nums (Qro s))
def Free(l:List Int):Prop:=∀x∈l,x≠0
theorem Qup{c:Int}(h:0≤c∧c<256):(UInt8.ofNat c.toNat == (0:Int).toNat.toUInt8)=decide (c=0):=by
 rw[Bool.eq_iff_iff,beq_iff_eq,decide_eq_true_iff]
 constructor
 ·intro e;have h1:=Qum h;rw[e]at h1
  simpa using h1.symm
 ·rintro rfl;rfl
theorem Quq:∀ {l:List Int},Bytes l→Free l→ixOf l 0=-1
 | [],_,_=>rfl
 | c :: l,hb,hf=>by
  have h1:=hb c (List.mem_cons_self ..);have h2:=hf c (List.mem_cons_self ..);have ih:=Quq (l:=l) (fun x hx=>hb x (List.mem_cons_of_mem _ hx)) (fun x hx=>hf x (List.mem_cons_of_mem _ hx));unfold ixOf at ih ⊢;simp only[Lib.bytesOf,List.map_cons,Lib.indexByte,Qup h1]at ih ⊢;rw[ih];simp[h2]
theorem Qur:∀ {a b:List Int},Bytes a→Free a→ixOf (a++0 :: b) 0=a.length
 | [],b,_,_=>by
  unfold ixOf;simp[Lib.bytesOf,Lib.indexByte]
 | c :: a,b,hb,hf=>by
  have h1:=hb c (List.mem_cons_self ..);have h2:=hf c (List.mem_cons_self ..);have ih:=Qur (a:=a) (b:=b) (fun x hx=>hb x (List.mem_cons_of_mem _ hx)) (fun x hx=>hf x (List.mem_cons_of_mem _ hx));unfold ixOf at ih ⊢;simp only[Lib.bytesOf,List.cons_append,List.map_cons,Lib.indexByte,Qup h1]at ih ⊢;rw[ih];have:((a.length:Int) == -1)=false:=by rw[beq_eq_false_iff_ne];omega
  simp[h2,this]
theorem Qus{a:List Int}(hb:Bytes a)(hf:Free a)(n:Nat):ixOf (a.take n) 0=-1:=Quq (hb.take n) (fun x hx=>hf x (List.mem_of_mem_take hx))
theorem Qut{now rest:List Int}(hb:Bytes now)(hf:Free now)(hl:now.length<254):Qmg (now++0 :: rest)=(((now.length:Int)+1)%256) :: (now++Qmg rest):=by
 have e:ixOf ((now++0 :: rest).take 254) 0=(now.length:Int):=by
  obtain⟨m,hm⟩:∃m,254-now.length=m+1:=⟨253-now.length,by omega⟩;rw[List.take_append,List.take_of_length_le (by omega),hm,List.take_succ_cons];exact Qur hb hf
 rw[Qmj e,List.take_left',List.drop_append,List.drop_of_length_le (by omega)]
 ·simp
 ·rfl
theorem Quu{now:List Int}(hb:Bytes now)(hf:Free now)(hl:now.length≤254):Qmg now=(((now.length:Int)+1)%256) :: now :=
 Qml (by rw[Qus hb hf];omega) (by omega)
theorem Quv{now rest:List Int}(hb:Bytes now)(hf:Free now)(hl:now.length=254)(hr:rest≠[]):Qmg (now++rest)=255 :: (now++Qmg rest):=by
 have hr':0<rest.length:=List.length_pos_iff.2 hr;have e1:(now++rest).take 254=now:=by rw[← hl];exact List.take_left' rfl
 have e2:(now++rest).drop 254=rest:=by rw[← hl];exact List.drop_left' rfl
 rw[Qmk (by rw[e1,Quq hb hf];omega) (by rw[List.length_append];omega),e1,e2]
theorem Quw(s:ByteArray)(i:Nat):bt s (i:Int)=rd (bytesOf s) (i:Int):=(Qdw s (i:Int)).symm
theorem ext_one(s:ByteArray)(i:Nat)(h:i<s.size):bytesOf (s.extract i (i+1))=[bt s (i:Int)]:=by
 rw[Qrs,Quw,rd_get (by rw[Qdv];exact h),Nat.add_sub_cancel_left,List.drop_eq_getElem_cons (by rw[Qdv];exact h)];rfl
theorem Qux(s:ByteArray):s.toList=([]:List UInt8)↔s.size=0:=by
 constructor
 ·intro h;have h1:s.toList.length=s.size:=by rw[Lib.toList_data,Qdu]
  rw[h]at h1
  simpa using h1.symm
 ·intro h;have h1:s.toList.length=s.size:=by rw[Lib.toList_data,Qdu]
  exact List.eq_nil_of_length_eq_zero (by omega)
theorem Quy(i:Nat)(h:i<4611686018427387904):wrap64 ((i:Int)+1)=((i+1:Nat):Int):=by unfold wrap64;omega
theorem Quz(i:Nat)(h0:0<i)(h:i<4611686018427387904):wrap64 ((i:Int)-1)=((i-1:Nat):Int):=by unfold wrap64;omega
def Qva(L now rest:List Int)(i:Nat):List Int:=if now=[]∧rest=[]∧0<i∧rd L ((i:Int)-1)≠0 then []else Qmg (now++rest)
theorem Qvb(k:Nat)(all out now:ByteArray)(i:Nat)(hs:out.size+now.size+1≤9223372036854775807)(hn:now.size<254)(hi:i<4611686018427387904) :
  ∃o',bytesOf o'=bytesOf out++((((bytesOf now).length:Int)+1)%256) :: bytesOf now∧Qbo.j1 (k+1) all out now (i:Int) false=Qbo.l0 k all o' (⟨#[]⟩:ByteArray) ((i+1:Nat):Int):=by
 have hw:wrap64 ((now.size:Int)+1)%256=(now.size:Int)+1:=by unfold wrap64;omega
 have hsz:(strOfNums [(now.size:Int)+1]).size=1:=by rw[strOfNums_size];rfl
 refine⟨(out++strOfNums [(now.size:Int)+1])++now,?_,?_⟩
 ·rw[Qul,Qul,bytesOf_nums (by intro x hx;simp at hx;omega),Qdv,List.append_assoc];rw[show((now.size:Int)+1)%256=(now.size:Int)+1 by omega];rfl
 ·unfold Qbo.j1;rw[if_neg (by decide),Option.bind_some,hw,if_pos (by omega),if_pos (by rw[ByteArray.size_append];omega),show wrap64 ((i:Int)+1)=((i+1:Nat):Int)by unfold wrap64;omega]
theorem Qvc(s:ByteArray)(hs:s.size≤1152921504606846976):∀(d i k:Nat) (out now:ByteArray),i+d=s.size→Free (bytesOf now)→now.size<254→out.size+now.size≤4*i→2*d+5≤k →
  ∃o',Qbo.l0 k (s++(⟨#[0]⟩:ByteArray)) out now (i:Int)=some o'∧bytesOf o'=bytesOf out++Qva (bytesOf s) (bytesOf now) ((bytesOf s).drop i) i
 | 0, i,k,out,now,hi,hf,hn,ho,hk=>by
  obtain⟨k,rfl⟩:∃m,k=m+3:=⟨k-3,by omega⟩;have hall:(s++(⟨#[0]⟩:ByteArray)).size=s.size+1:=by rw[ByteArray.size_append];rfl
  have hbA:bytesOf (s++(⟨#[0]⟩:ByteArray))=bytesOf s++[0]:=by rw[Qul];rfl
  have hlen:=Qdv s;have hbt:bt (s++(⟨#[0]⟩:ByteArray)) (i:Int)=0:=by
   rw[Quw,rd_get (by rw[hbA,List.length_append,hlen];simp;omega)];simp only[hbA];rw[List.getElem_append_right (by omega)];simp
  have hd:(bytesOf s).drop i=[]:=List.drop_of_length_le (by omega);have hwl:wrap64 (((s++(⟨#[0]⟩:ByteArray)).size:Int)-1)=(i:Int):=by rw[hall];unfold wrap64;omega
  have hnl:=Qdv now;have hend:∀(o:ByteArray) (m:Nat),Qbo.l0 (m+1) (s++(⟨#[0]⟩:ByteArray)) o (⟨#[]⟩:ByteArray) ((i+1:Nat):Int)=some o:=by
   intro o m;unfold Qbo.l0;rw[if_neg (by rw[hall];omega)]
  obtain⟨oj,hj1,hj2⟩:=Qvb (k+1) (s++(⟨#[0]⟩:ByteArray)) out now i (by omega) hn (by omega);have hstf:Qmg (bytesOf now++[])=((((bytesOf now).length:Int)+1)%256) :: bytesOf now:=by
   rw[List.append_nil];exact Quu (Qro now) hf (by omega)
  unfold Qbo.l0;rw[if_pos (by rw[hall];omega),if_pos (by omega),hbt,if_pos rfl,hwl,if_pos rfl]
  by_cases hne:now.size=0
  ·rw [if_pos ((Qux now).2 hne)];have b:bytesOf now=[]:=List.eq_nil_of_length_eq_zero (by omega)
   by_cases h0:0<i
   ·have hw1:wrap64 ((i:Int)-1)=((i-1:Nat):Int):=by unfold wrap64;omega
    rw[if_pos (by omega),hw1,if_pos (by omega),if_pos (by rw[hall];omega)];have hb1:bt (s++(⟨#[0]⟩:ByteArray)) ((i-1:Nat):Int)=rd (bytesOf s) ((i:Int)-1):=by
     rw[show(i:Int)-1=((i-1:Nat):Int)by omega,Quw,rd_get (by rw[hbA,List.length_append,hlen];simp;omega),rd_get (by omega)];simp only[hbA];rw[List.getElem_append_left (by omega)]
    rw[hb1]
    by_cases hz:rd (bytesOf s) ((i:Int)-1)=0
    ·rw[hz,show((0:Int) != 0)=false from rfl,hj2];refine⟨oj,hend _ _,?_⟩;rw[hj1,hd];unfold Qva;rw[if_neg (by intro h;exact h.2.2.2 hz),hstf]
    ·refine⟨out,?_,?_⟩
     ·unfold Qbo.j1;rw[if_pos (by simpa using hz)]
     ·rw[hd];unfold Qva;rw[if_pos ⟨b,rfl,h0,hz⟩,List.append_nil]
   ·rw[if_neg (by omega),hj2];refine⟨oj,hend _ _,?_⟩;rw[hj1,hd];unfold Qva;rw[if_neg (by intro h;exact h0 h.2.2.1),hstf]
  ·rw[if_neg (by intro h;exact hne ((Qux now).1 h)),hj2];refine⟨oj,hend _ _,?_⟩;rw[hj1,hd];unfold Qva;rw[if_neg (by intro h;have:=h.1;rw[this]at hnl;exact hne hnl.symm),hstf]
 | d + 1,i,k,out,now,hi,hf,hn,ho,hk=>by
  obtain⟨k,rfl⟩:∃m,k=m+2:=⟨k-2,by omega⟩;have hall:(s++(⟨#[0]⟩:ByteArray)).size=s.size+1:=by rw[ByteArray.size_append];rfl
  have hbA:bytesOf (s++(⟨#[0]⟩:ByteArray))=bytesOf s++[0]:=by rw[Qul];rfl
  have hlen:=Qdv s;have hil:i<(bytesOf s).length:=by omega
  obtain⟨c,hc⟩:∃c,c=(bytesOf s)[i]:=⟨_,rfl⟩;have hbt:bt (s++(⟨#[0]⟩:ByteArray)) (i:Int)=c:=by
   rw[Quw,rd_get (by rw[hbA,List.length_append];omega),hc];simp only[hbA];rw[List.getElem_append_left hil]
  have hcb:0≤c∧c<256:=by rw[hc];exact Qro s _ (List.getElem_mem hil)
  have hdrop:(bytesOf s).drop i=c :: (bytesOf s).drop (i+1):=by rw[hc];exact List.drop_eq_getElem_cons hil
  have hrd:rd (bytesOf s) (((i+1:Nat):Int)-1)=c:=by rw[show(((i+1:Nat):Int)-1)=(i:Int)by omega,rd_get hil,hc]
  have hnl:=Qdv now;have hnot:¬(i:Int)=wrap64 (((s++(⟨#[0]⟩:ByteArray)).size:Int)-1):=by rw[hall];unfold wrap64;omega
  have hnil:bytesOf (⟨#[]⟩:ByteArray)=[]:=rfl;rw[hdrop];unfold Qbo.l0;rw[if_pos (by rw[hall];omega),if_pos (by omega),hbt]
  by_cases hz:c=0
  ·subst hz;rw[if_pos rfl,if_neg hnot];obtain⟨oj,hj1,hj2⟩:=Qvb k (s++(⟨#[0]⟩:ByteArray)) out now i (by omega) hn (by omega);have hjs:oj.size=out.size+now.size+1:=by
    have:=congrArg List.length hj1;rw[Qdv,List.length_append,List.length_cons,Qdv,Qdv]at this;omega
   rw[hj2];obtain⟨o',h1,h2⟩:=Qvc s hs d (i+1) k oj (⟨#[]⟩:ByteArray) (by omega) (by intro x hx;rw[hnil]at hx;cases hx) (by decide) (by rw[hjs];show _+0≤_;omega) (by omega);refine⟨o',h1,?_⟩;rw[h2,hj1,hnil];unfold Qva;rw[if_neg (by intro h;exact h.2.2.2 hrd),if_neg (by intro h;cases h.2.1),List.nil_append,Qut (Qro now) hf (by omega)];simp
  ·rw[if_neg hz,Quy i (by omega),if_pos (by omega),if_pos (by rw[hall];omega)];obtain⟨x1,a⟩:∃x1,x1=(s++(⟨#[0]⟩:ByteArray)).extract (i:Int).toNat ((i+1:Nat):Int).toNat:=⟨_,rfl⟩;have hxb:bytesOf x1=[c]:=by
    rw[a,Int.toNat_natCast,Int.toNat_natCast,ext_one _ _ (by rw[hall];omega),hbt]
   have hxs:x1.size=1:=by rw[Qrt,hxb];rfl
   rw[← a,if_pos (by omega)];have hnb:bytesOf (now++x1)=bytesOf now++[c]:=by rw[Qul,hxb]
   have hns:(now++x1).size=now.size+1:=by rw[ByteArray.size_append,hxs]
   have hfree:Free (bytesOf now++[c]):=by
    intro x hx
    rcases List.mem_append.1 hx with h|h
    ·exact hf x h
    ·simp at h;rw[h];exact hz
   by_cases hfull:((now++x1).size:Int)=254
   ·rw[if_pos hfull,if_pos (by omega)];have hos:(out++(⟨#[255]⟩:ByteArray)).size=out.size+1:=by rw[ByteArray.size_append];rfl
    rw[if_pos (by rw[hos];omega)];obtain⟨o',h1,h2⟩:=Qvc s hs d (i+1) (k+1) ((out++(⟨#[255]⟩:ByteArray))++(now++x1)) (⟨#[]⟩:ByteArray) (by omega) (by intro x hx;rw[hnil]at hx;cases hx) (by decide) (by rw[ByteArray.size_append,hos];show _+0≤_;omega) (by omega);refine⟨o',h1,?_⟩;rw[h2,Qul,Qul,hnb,hnil,show bytesOf (⟨#[255]⟩:ByteArray)=[255] from rfl];have hl254:(bytesOf now++[c]).length=254:=by rw[List.length_append,hnl];simp;omega
    have hbb:Bytes (bytesOf now++[c]):=by rw[← hnb];exact Qro _
    unfold Qva
    by_cases hr:(bytesOf s).drop (i+1)=[]
    ·rw[if_pos ⟨rfl,hr,by omega,by rw[hrd];exact hz⟩,if_neg (by intro h;cases h.2.1),hr,Quu hbb hfree (by omega),hl254];simp
    ·rw[if_neg (by intro h;exact hr h.2.1),if_neg (by intro h;cases h.2.1),List.nil_append];have:=Quv hbb hfree hl254 hr;rw[List.append_assoc]at this;rw[show bytesOf now++c :: (bytesOf s).drop (i+1)=bytesOf now++([c]++(bytesOf s).drop (i+1)) from rfl,this];simp
   ·rw[if_neg hfull];obtain⟨o',h1,h2⟩:=Qvc s hs d (i+1) (k+1) out (now++x1) (by omega) (by rw[hnb];exact hfree) (by omega) (by omega) (by omega);refine⟨o',h1,?_⟩;rw[h2,hnb];unfold Qva;rw[if_neg (by intro h;have:=h.1;simp at this),if_neg (by intro h;cases h.2.1)];simp
theorem Qvd(s:ByteArray)(k:Nat)(hs:s.size≤1152921504606846976)(hk:2*s.size+5≤k):∃o',Qbo.f k s=some o'∧bytesOf o'=Qmg (bytesOf s):=by
 have hnil:bytesOf (⟨#[]⟩:ByteArray)=[]:=rfl;obtain⟨o',h1,h2⟩:=Qvc s hs s.size 0 k (⟨#[]⟩:ByteArray) (⟨#[]⟩:ByteArray) (by omega) (by intro x hx;rw[hnil]at hx;cases hx) (by decide) (by decide) hk;refine⟨o',?_,?_⟩
 ·unfold Qbo.f;rw[if_pos (by omega)];exact h1
 ·rw[h2,hnil];unfold Qva;rw[if_neg (by intro h;exact absurd h.2.2.1 (by omega))];simp
theorem Qve:∀(n k:Nat) (x:Int),n≤9→0≤x→x<128^(n+1)→x<18446744073709551616→n+1≤k→∃t,Qbh.f k x=some t∧bytesOf t=vput n x
 | 0,k,x,hn,h0,h1,h2,hk=>by
  obtain⟨k,rfl⟩:∃m,k=m+1:=⟨k-1,by omega⟩;have hx:x<128:=by simpa using h1
  refine⟨strOfNums [x%256],?_,?_⟩
  ·unfold Qbh.f;rw[if_pos hx]
  ·rw[bytesOf_nums (by intro y hy;simp at hy;omega)];simp[vput];omega
 | n+1,k,x,hn,h0,h1,h2,hk=>by
  obtain⟨k,rfl⟩:∃m,k=m+1:=⟨k-1,by omega⟩
  by_cases hx:x<128
  ·refine⟨strOfNums [x%256],?_,?_⟩
   ·unfold Qbh.f;rw[if_pos hx]
   ·rw[bytesOf_nums (by intro y hy;simp at hy;omega)];simp[vput,hx];omega
  ·have hq:x/128<128^(n+1):=by
    rw[Int.pow_succ]at h1;exact Int.ediv_lt_of_lt_mul (by omega) h1
   obtain⟨t,ht,hb⟩:=Qve n k (x/128) (by omega) (by omega) hq (by omega) (by omega);have e1:IntKind.u64.wrap (Int.tdiv x 128)=x/128:=by rw[Int.tdiv_eq_ediv_of_nonneg h0,IntWalk.u64_in _ (by omega)]
   have e2:IntKind.u64.wrap (128+(Int.tmod x 128))%256=x%128+128:=by rw[Int.tmod_eq_emod_of_nonneg h0,IntWalk.u64_in _ (by omega)];omega
   have hl:=Qmo n (x/128);have hts:t.size≤n+1:=by rw[Qrt,hb];exact hl
   have hy:(strOfNums [x%128+128]).size=1:=by rw[strOfNums_size];rfl
   refine⟨strOfNums [x%128+128]++t,?_,?_⟩
   ·unfold Qbh.f;rw[if_neg hx,Option.bind_some,e1,e2,ht,Option.bind_some,hy];rw[if_pos (by omega)]
   ·rw[Qul,bytesOf_nums (by intro y hy';simp at hy';omega),hb];simp[vput,hx]
theorem num2(k:Nat)(x:Int)(h0:0≤x)(h1:x<18446744073709551616)(hk:10≤k):∃t,Qbh.f k x=some t∧bytesOf t=vput 9 x :=
 Qve 9 k x (by omega) h0 (by omega) h1 hk
theorem Qvf:∀(d k:Nat) (n i:Nat) (x:Int) (out:ByteArray),i+d=n→n≤1000→0≤x→x<18446744073709551616→out.size≤i→d+1≤k →
  ∃t,Qbf.l0 k x out (n:Int) (i:Int)=some t∧bytesOf t=bytesOf out++leb x d
 | 0,k,n,i,x,out,h,hn,h0,h1,ho,hk=>by
  obtain⟨k,rfl⟩:∃m,k=m+1:=⟨k-1,by omega⟩;refine⟨out,?_,by simp[leb]⟩;unfold Qbf.l0;rw[if_neg (by omega)]
 | d+1,k,n,i,x,out,h,hn,h0,h1,ho,hk=>by
  obtain⟨k,rfl⟩:∃m,k=m+1:=⟨k-1,by omega⟩;have e1:(Int.tmod x 256)%256=x%256:=by rw[Int.tmod_eq_emod_of_nonneg h0];omega
  have e2:IntKind.u64.wrap (Int.tdiv x 256)=x/256:=by rw[Int.tdiv_eq_ediv_of_nonneg h0,IntWalk.u64_in _ (by omega)]
  have hy:(strOfNums [x%256]).size=1:=by rw[strOfNums_size];rfl
  obtain⟨t,ht,hb⟩:=Qvf d k n (i+1) (x/256) (out++strOfNums [x%256]) (by omega) hn (by omega) (by omega) (by rw[ByteArray.size_append,hy];omega) (by omega);refine⟨t,?_,?_⟩
  ·unfold Qbf.l0;rw[if_pos (by omega),Option.bind_some,e1,e2,hy,if_pos (by omega),Quy i (by omega)];exact ht
  ·rw[hb,Qul,bytesOf_nums (by intro y hy';simp at hy';omega)];simp[leb]
theorem num1(k n:Nat)(x:Int)(hn:n≤1000)(h0:0≤x)(h1:x<18446744073709551616)(hk:n+1≤k):∃t,Qbf.f k x (n:Int)=some t∧bytesOf t=leb x n:=by
 obtain⟨t,ht,hb⟩:=Qvf n k n 0 x (⟨#[]⟩:ByteArray) (by omega) hn h0 h1 (by decide) hk;exact⟨t,ht,by rw[hb];rfl⟩
theorem text2(k:Nat)(s:ByteArray)(hs:s.size≤70368744177664)(hk:10≤k):∃t,Qbi.f k s=some t∧bytesOf t=vput 9 s.size++bytesOf s∧t.size≤s.size+10:=by
 obtain⟨t,ht,hb⟩:=num2 k (s.size:Int) (by omega) (by omega) hk;have hl:=Qmo 9 (s.size:Int);have hts:t.size≤10:=by rw[Qrt,hb];omega
 refine⟨t++s,?_,by rw[Qul,hb],by rw[ByteArray.size_append];omega⟩;unfold Qbi.f;rw[if_pos hs,ht,Option.bind_some,if_pos (by omega)]
theorem Qvg(k:Nat)(d:Bool)(s:Int)(key v:ByteArray)(hs0:0≤s)(hs1:s<18446744073709551616)(hk1:key.size≤70368744177664)(hv1:v.size≤70368744177664)(hk:10≤k) :
  ∃t,Qbp.f k d s key v=some t∧bytesOf t=Qna d s key v∧t.size≤key.size+v.size+31:=by
 obtain⟨t1,h1,b1⟩:=num2 k s hs0 hs1 hk;obtain⟨t2,h2,b2,z2⟩:=text2 k key hk1 hk;obtain⟨t3,h3,b3,z3⟩:=text2 k v hv1 hk;have hl:=Qmo 9 s;have hz1:t1.size≤10:=by rw[Qrt,b1];omega
 cases d with
 | true =>
  have hc:(⟨#[3]⟩:ByteArray).size=1:=rfl;refine⟨((⟨#[3]⟩:ByteArray)++t1)++t2,?_,?_,?_⟩
  ·unfold Qbp.f;rw[if_pos rfl,h1,Option.bind_some,if_pos (by omega),h2,Option.bind_some,if_pos (by rw[ByteArray.size_append,hc];omega)]
  ·rw[Qul,Qul,b1,b2,show bytesOf (⟨#[3]⟩:ByteArray)=[3] from rfl];simp[Qna]
  ·rw[ByteArray.size_append,ByteArray.size_append,hc];omega
 | false =>
  have hc:(⟨#[2]⟩:ByteArray).size=1:=rfl;refine⟨(((⟨#[2]⟩:ByteArray)++t1)++t2)++t3,?_,?_,?_⟩
  ·unfold Qbp.f;rw[if_neg (by decide),h1,Option.bind_some,if_pos (by omega),h2,Option.bind_some,if_pos (by rw[ByteArray.size_append,hc];omega),h3,Option.bind_some,if_pos (by rw[ByteArray.size_append,ByteArray.size_append,hc];omega)]
  ·rw[Qul,Qul,Qul,b1,b2,b3,show bytesOf (⟨#[2]⟩:ByteArray)=[2] from rfl];simp[Qna]
  ·rw[ByteArray.size_append,ByteArray.size_append,ByteArray.size_append,hc];omega
theorem Qvh(k:Nat)(s:ByteArray)(hs:s.size≤562949953421312)(hk:2*s.size+200≤k):∃t,Qbw.f k s=some t∧bytesOf t=Qnz (bytesOf s):=by
 have hr:=Qny 0 (bytesOf s);obtain⟨t1,h1,b1⟩:=num1 k 8 (Qnt 0 (bytesOf s)) (by omega) hr.1 hr.2 (by omega);have hz1:t1.size=8:=by rw[Qrt,b1,Qkp]
 obtain⟨t2,h2,b2⟩:=Qvd (s++t1) k (by rw[ByteArray.size_append];omega) (by rw[ByteArray.size_append];omega);have hl:=Qoa _ (bytesOf (s++t1)) (Nat.le_refl _);have hz2:t2.size≤2*s.size+17:=by
  rw[Qrt t2,b2];rw[Qdv,ByteArray.size_append]at hl;omega
 refine⟨t2++(⟨#[0]⟩:ByteArray),?_,?_⟩
 ·unfold Qbw.f;rw[Qsj 0 s k ⟨by omega,by omega⟩ (by omega) (by omega),Option.bind_some,show(8:Int)=((8:Nat):Int) from rfl,h1,Option.bind_some,if_pos (by omega),h2,Option.bind_some,if_pos (by omega)]
 ·rw[Qul,b2,Qul,b1];rfl
theorem Qvi(k:Nat)(d:Bool)(s:Int)(key v:ByteArray)(hs0:0≤s)(hs1:s<18446744073709551616)(hk1:key.size≤35184372088832)(hv1:v.size≤35184372088832)(hk:2*(key.size+v.size)+300≤k) :
  ∃t,Qbv.f k d s key v=some t∧bytesOf t=Qnz (Qna d s key v):=by
 obtain⟨t1,h1,b1,z1⟩:=Qvg k d s key v hs0 hs1 (by omega) (by omega) (by omega);obtain⟨t2,h2,b2⟩:=Qvh k t1 (by omega) (by omega);refine⟨t2,?_,by rw[b2,b1]⟩;unfold Qbv.f;rw[h1,Option.bind_some,h2,Option.bind_some]
theorem Qvj(k:Nat)(e s n:Int)(he0:0≤e)(he1:e<256)(hs0:0≤s)(hs1:s<4294967296)(hn0:0≤n)(hn1:n<18446744073709551616)(hk:300≤k) :
  ∃t,Qbu.f k e s n=some t∧bytesOf t=Qoe e s n:=by
 obtain⟨t1,h1,b1⟩:=num2 k s hs0 (by omega) (by omega);obtain⟨t2,h2,b2⟩:=num2 k n hn0 hn1 (by omega);have hl1:=Qmo 9 s;have hl2:=Qmo 9 n;have hz1:t1.size≤10:=by rw[Qrt,b1];omega
 have hz2:t2.size≤10:=by rw[Qrt,b2];omega
 have hy:(strOfNums [e]).size=1:=by rw[strOfNums_size];rfl
 have hc:(⟨#[1,2]⟩:ByteArray).size=2:=rfl;have hbs:bytesOf ((((⟨#[1,2]⟩:ByteArray)++strOfNums [e])++t1)++t2)=[1,2,e]++vput 9 s++vput 9 n:=by
  rw[Qul,Qul,Qul,b1,b2,bytesOf_nums (by intro y hy';simp at hy';omega)];rfl
 obtain⟨t3,h3,b3⟩:=Qvh k ((((⟨#[1,2]⟩:ByteArray)++strOfNums [e])++t1)++t2) (by rw[ByteArray.size_append,ByteArray.size_append,ByteArray.size_append,hy,hc];omega) (by rw[ByteArray.size_append,ByteArray.size_append,ByteArray.size_append,hy,hc];omega);refine⟨t3,?_,by rw[b3,hbs];rfl⟩;unfold Qbu.f;rw[Option.bind_some,hy,if_pos (by omega),IntWalk.u64_in s (by omega),h1,Option.bind_some,if_pos (by rw[ByteArray.size_append,hy,hc];omega),h2,Option.bind_some,if_pos (by rw[ByteArray.size_append,ByteArray.size_append,hy,hc];omega),h3,Option.bind_some]
end Go.Proofs.YteaocbonofboeaaGreat.CodecP
end
