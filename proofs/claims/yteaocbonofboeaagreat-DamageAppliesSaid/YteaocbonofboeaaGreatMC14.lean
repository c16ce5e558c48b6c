/- Merged texts. -/
import Derived.Test.YteaocbonofboeaaGreatMC13
import Derived.Test.YteaocbonofboeaaGreatMC09
import Derived.Test.YteaocbonofboeaaGreatMC11
import Derived.Laws.Bits64b
import Derived.Test.YteaocbonofboeaaGreatMC04
set_option linter.unusedVariables false
set_option linter.unusedSimpArgs false
set_option maxHeartbeats 8000000
set_option maxRecDepth 100000
section
namespace Go.Proofs.YteaocbonofboeaaGreat.CodecP
open Go.RowKit Go.Proofs.YteaocbonofboeaaGreat.C Go.Proofs.YteaocbonofboeaaGreatW.PrintWords Go.Proofs.YteaocbonofboeaaGreatW.PrintLast Go.Proofs.YteaocbonofboeaaGreatW.PrintMore
def rotN(x n:Nat):Nat:=(x%2^(64-n))*2^n+x/2^(64-n)
theorem Qmt(x n:Nat)(hx:x<2^64)(hn:n≤64):rotN x n<2^64:=by
 unfold rotN;have hp:(2:Nat)^(64-n)*2^n=2^64:=by rw[← Nat.pow_add];congr 1;omega
 have h1:x%2^(64-n)<2^(64-n):=Nat.mod_lt _ (Nat.two_pow_pos _);have h2:x/2^(64-n)<2^n:=by rw[Nat.div_lt_iff_lt_mul (Nat.two_pow_pos _),Nat.mul_comm,hp];exact hx
 have h3:(x%2^(64-n))*2^n+2^n≤2^(64-n)*2^n:=by
  rw[← Nat.succ_mul];exact Nat.mul_le_mul_right _ h1
 omega
theorem Qmu(x i:Nat)(hx:x<2^64)(hi:i<64):(2*rotN x i)%2^64+rotN x i/2^63=rotN x (i+1):=by
 unfold rotN;obtain⟨m,hm⟩:∃m,m=63-i:=⟨_,rfl⟩;rw[show 64-i=m+1 by omega,show 64-(i+1)=m by omega];have hp:(2:Nat)^m*2^i=2^63:=by rw[← Nat.pow_add];congr 1;omega
 rw[Nat.pow_succ 2 m,Nat.pow_succ 2 i];generalize hP:(2:Nat)^m=P at *;generalize hQ:(2:Nat)^i=Q at *;have hP0:0<P:=by rw[← hP];exact Nat.two_pow_pos _
 have hQ0:0<Q:=by rw[← hQ];exact Nat.two_pow_pos _
 obtain⟨a,ha⟩:∃a,a=x/(P*2):=⟨_,rfl⟩;obtain⟨b,hb⟩:∃b,b=x%(P*2):=⟨_,rfl⟩;have hxab:x=P*2*a+b:=by rw[ha,hb];exact(Nat.div_add_mod x (P*2)).symm
 have hbl:b<P*2:=by rw[hb];exact Nat.mod_lt _ (by omega)
 have haQ:a<Q:=by
  rw[ha,Nat.div_lt_iff_lt_mul (by omega),Nat.mul_comm,Nat.mul_assoc,Nat.mul_comm 2 Q,← Nat.mul_assoc,hp];omega
 obtain⟨c,hc⟩:∃c,c=b/P:=⟨_,rfl⟩;obtain⟨d,hd⟩:∃d,d=b%P:=⟨_,rfl⟩;have hbcd:b=P*c+d:=by rw[hc,hd];exact(Nat.div_add_mod b P).symm
 have hdl:d<P:=by rw[hd];exact Nat.mod_lt _ hP0
 have hcl:c<2:=by rw[hc,Nat.div_lt_iff_lt_mul hP0,Nat.mul_comm];exact hbl
 have hxP:x/P=2*a+c:=by
  rw[hxab,hbcd,show P*2*a+(P*c+d)=P*(2*a+c)+d by rw[Nat.mul_add,Nat.mul_assoc,Nat.add_assoc],Nat.mul_add_div hP0,Nat.div_eq_of_lt hdl];rfl
 have hxm:x%P=d:=by
  rw[hxab,hbcd,show P*2*a+(P*c+d)=P*(2*a+c)+d by rw[Nat.mul_add,Nat.mul_assoc,Nat.add_assoc],Nat.mul_add_mod,Nat.mod_eq_of_lt hdl]
 rw[← ha,← hb,hxP,hxm];have he:d*Q+a<2^63:=by
  have:d*Q+Q≤P*Q:=by rw[← Nat.succ_mul];exact Nat.mul_le_mul_right _ hdl
  omega
 have hbq:b*Q+a=2^63*c+(d*Q+a):=by
  rw[hbcd,Nat.add_mul,Nat.mul_assoc,Nat.mul_comm c Q,← Nat.mul_assoc,hp,Nat.add_assoc]
 rw[hbq,show d*(Q*2)=2*(d*Q)by rw[← Nat.mul_assoc,Nat.mul_comm]];generalize d*Q=q at *;clear hp hbq hxab hbcd hbl;have:c=0∨c=1:=by omega
 rcases this with rfl|rfl<;>omega
theorem Qmv(x n:Nat)(hx:x<2^64)(h0:0<n)(hn:n<64):rotP (x:Int) (n:Int)=(rotN x n:Nat):=by
 have hand:Go.bits .and .u64 (IntKind.u64.wrap (n:Int)) 63=(n:Int):=by
  rw[IntWalk.u64_in _ (by omega),show(63:Int)=((63:Nat):Int) from rfl,bits_and_u64_nat _ _ (by omega) (by decide)];have:=Nat.and_two_pow_sub_one_eq_mod n 6;rw[show(63:Nat)=2^6-1 from rfl,this,Nat.mod_eq_of_lt (by omega)]
 have h:=Qka (x:Int) (n:Int) ⟨by omega,by omega,hand⟩;unfold Qac.f at h;rw[hand,if_pos (by omega),IntWalk.u64_in _ (by omega),if_pos (by omega),Option.some_inj]at h;rw[← h];unfold shl shr rotN;have e1:min (n:Int).toNat IntKind.u64.bits=n:=by simp[IntKind.bits];omega
 have e2:min ((64:Int)-(n:Int)).toNat IntKind.u64.bits=64-n:=by simp[IntKind.bits]<;>omega
 rw[e1,e2,IntKind.wrap_u64];have e3:((x:Int)*2^n)%18446744073709551616=(((x%2^(64-n))*2^n:Nat):Int):=by
  rw[← Nat.mul_mod_mul_right,← Nat.pow_add,show 64-n+n=64 by omega];rw[Int.natCast_emod,Int.natCast_mul,Int.natCast_pow];rfl
 have e4:(x:Int)/2^(64-n)=((x/2^(64-n):Nat):Int):=by rw[Int.natCast_ediv,Int.natCast_pow];rfl
 rw[e3,e4];have hp:(2:Nat)^(64-n)*2^n=2^64:=by rw[← Nat.pow_add];congr 1;omega
 have h1:x%2^(64-n)<2^(64-n):=Nat.mod_lt _ (Nat.two_pow_pos _);have h2:x/2^(64-n)<2^n:=by rw[Nat.div_lt_iff_lt_mul (Nat.two_pow_pos _),Nat.mul_comm,hp];exact hx
 have h3:(x%2^(64-n))*2^n+2^n≤2^(64-n)*2^n:=by
  rw[← Nat.succ_mul];exact Nat.mul_le_mul_right _ h1
 have hq:=Nat.two_pow_pos n;rw[bits_or_u64_nat _ _ (by omega) (by omega)]
 congr 1
 rw[Nat.mul_comm,← Nat.two_pow_add_eq_or_of_lt h2]
theorem Qmw(x n:Nat)(hx:x<2^64)(hn:n≤64):Qmd (x:Int) n=(rotN x n:Nat):=by
 have key:∀(d i:Nat),i+d=n→Qbh.l0 (d+1) ((rotN x i:Nat):Int) (n:Int) (i:Int)=some ((rotN x n:Nat):Int):=by
  intro d
  induction d with
  | zero =>
   intro i h;unfold Qbh.l0;obtain rfl:i=n:=by omega
   rw[if_neg (by omega)]
  | succ d ih =>
   intro i h;unfold Qbh.l0;rw[if_pos (by omega),show wrap64 ((i:Int)+1)=((i+1:Nat):Int)by unfold wrap64;omega];have hl:=Qmt x i hx (by omega);have hs:=Qmu x i hx (by omega);have e:IntKind.u64.wrap ((IntKind.u64.wrap (2*((rotN x i:Nat):Int)))+(IntKind.u64.wrap (Int.tdiv ((rotN x i:Nat):Int) 9223372036854775808)))=((rotN x (i+1):Nat):Int):=by
    rw[← hs,Int.tdiv_eq_ediv_of_nonneg (by omega)];generalize rotN x i=y at *;simp only[IntKind.wrap_u64];omega
   rw[e];exact ih (i+1) (by omega)
 have h0:rotN x 0=x:=by simp[rotN,Nat.mod_eq_of_lt hx,Nat.div_eq_of_lt hx]
 have:=key n 0 (by omega);rw[h0]at this;unfold Qmd Qbh.f;rw[show((0:Nat):Int)=0 from rfl]at this;rw[this];rfl
theorem Qmx(x:Int)(n:Nat)(hx0:0≤x)(hx:x<18446744073709551616)(h0:0<n)(hn:n<64):Qmd x n=rotP x (n:Int):=by
 obtain⟨y,rfl⟩:=Int.eq_ofNat_of_zero_le hx0;rw[Qmw y n (by omega) (by omega),Qmv y n (by omega) h0 hn]
theorem u64r(x:Int):0≤IntKind.u64.wrap x∧IntKind.u64.wrap x<18446744073709551616:=by
 rw[IntKind.wrap_u64];omega
theorem Qmy(x y:Int):Qmf x y=Qkb x y:=by
 unfold Qmf Qkb Qbf.f Qcm.f;rw[show(32:Nat)=31+1 from rfl,show(31:Int)=((31:Nat):Int) from rfl,Qme _ 31 (by omega)];have hw:=u64r (x+(IntKind.u64.wrap (y*14029467366897019727)));rw[Qmx _ 31 hw.1 hw.2 (by omega) (by omega),Qka _ _ ⟨by decide,by decide,by kernel_rfl⟩]
def leI:List Int→Int
 | []=>0
 | b :: l=>b+256*leI l
def Bytes(l:List Int):Prop:=∀x∈l,0≤x∧x<256
theorem Qmz(s:ByteArray):Bytes (bytesOf s):=by
 intro x hx;unfold bytesOf at hx;obtain⟨b,_,rfl⟩:=List.mem_map.1 hx;have:=b.toNat_lt;omega
theorem Bytes.drop{l:List Int}(h:Bytes l)(n:Nat):Bytes (l.drop n):=fun x hx=>h x (List.mem_of_mem_drop hx)
theorem Bytes.take{l:List Int}(h:Bytes l)(n:Nat):Bytes (l.take n):=fun x hx=>h x (List.mem_of_mem_take hx)
theorem Qna{l:List Int}(h:Bytes l):0≤leI l∧leI l<256^l.length:=by
 induction l with
 | nil=>simp[leI]
 | cons b l ih =>
  have h1:=ih (fun x hx=>h x (List.mem_cons_of_mem _ hx));have h2:=h b (List.mem_cons_self ..);simp only[leI,List.length_cons,Int.pow_succ];omega
theorem Qnb(l:List Int)(b:Int):leI (l++[b])=leI l+256^l.length*b:=by
 induction l with
 | nil=>simp[leI]
 | cons a l ih=>simp only[List.cons_append,leI,ih,List.length_cons,Int.pow_succ];rw[Int.mul_add,Int.mul_comm (256^l.length) 256,Int.mul_assoc];omega
theorem rd_get{l:List Int}{i:Nat}(h:i<l.length):rd l (i:Int)=l[i]:=by simp[rd,List.getD,List.getElem?_eq_getElem h]
theorem Qnc{l:List Int}{i:Nat}(h:i<l.length):l.take (i+1)=l.take i++[rd l (i:Int)]:=by rw[List.take_succ_eq_append_getElem h,rd_get h]
theorem rd_range{l:List Int}(hb:Bytes l){i:Nat}(h:i<l.length):0≤rd l (i:Int)∧rd l (i:Int)<256:=by rw[rd_get h];exact hb _ (List.getElem_mem h)
theorem num_le(n:Nat)(hn:n≤8)(l:List Int)(hb:Bytes l)(hl:n≤l.length):numP n l=leI (l.take n):=by
 have key:∀(d i:Nat),i+d=n→Qcn.l0 (d+1) l (leI (l.take i)) (n:Int) (i:Int)=some (leI (l.take n)):=by
  intro d
  induction d with
  | zero =>
   intro i h;unfold Qcn.l0;obtain rfl:i=n:=by omega
   rw[if_neg (by omega)]
  | succ d ih =>
   intro i h;unfold Qcn.l0;have hw:wrap64 (8*(i:Int))=((8*i:Nat):Int):=by unfold wrap64;omega
   rw[if_pos (by omega),if_pos (by omega),if_pos (by omega),hw,if_pos (by omega),show wrap64 ((i:Int)+1)=((i+1:Nat):Int)by unfold wrap64;omega];have hr:=Qna (hb.take i);have hlen:(l.take i).length=i:=by rw[List.length_take];omega
   rw[hlen]at hr;have hd:=rd_range hb (show i<l.length by omega);have e:Go.bits .or .u64 (leI (l.take i)) (shl .u64 (IntKind.u64.wrap (rd l (i:Int))) ((8*i:Nat):Int))=leI (l.take (i+1)):=by
    rw[Qnc (by omega),Qnb,hlen,IntWalk.u64_in _ (by omega)];generalize rd l (i:Int)=b at *;generalize leI (l.take i)=a at *;obtain⟨a,rfl⟩:=Int.eq_ofNat_of_zero_le hr.1;obtain⟨b,rfl⟩:=Int.eq_ofNat_of_zero_le hd.1;have hp:(256:Nat)^i=2^(8*i):=by rw[Nat.pow_mul]
    have ha:a<2^(8*i):=by
     have:=hr.2;rw[← hp]
     exact_mod_cast this
    have hbig:b*2^(8*i)<2^64:=by
     have h1:b*2^(8*i)<2^8*2^(8*i):=Nat.mul_lt_mul_of_pos_right (by omega) (Nat.two_pow_pos _);have h2:(2:Nat)^8*2^(8*i)≤2^64:=by rw[← Nat.pow_add];exact Nat.pow_le_pow_right (by omega) (by omega)
     omega
    have ha2:a<2^64:=by
     have h2:(2:Nat)^(8*i)≤2^64:=Nat.pow_le_pow_right (by omega) (by omega);omega
    unfold shl;rw[show min ((8*i:Nat):Int).toNat IntKind.u64.bits=8*i by simp[IntKind.bits];omega,IntKind.wrap_u64];have e1:((b:Int)*2^(8*i))%18446744073709551616=((2^(8*i)*b:Nat):Int):=by
     have e2:((b:Int)*2^(8*i))=((b*2^(8*i):Nat):Int):=by push_cast;rfl
     rw[e2,Nat.mul_comm (2^(8*i)) b];omega
    rw[e1,bits_or_u64_nat _ _ (by omega) (by rw[Nat.mul_comm];omega),Nat.or_comm,← Nat.two_pow_add_eq_or_of_lt ha];have e3:((256:Int)^i*(b:Int))=((256^i*b:Nat):Int):=by push_cast;rfl
    rw[e3,hp];omega
   rw[e];exact ih (i+1) (by omega)
 have:=key n 0 (by omega);unfold numP Qcn.f;rw[show leI (l.take 0)=0 from rfl,show((0:Nat):Int)=0 from rfl]at this;rw[this];rfl
theorem Qnd(s:ByteArray)(a b:Nat):bytesOf (s.extract a b)=((bytesOf s).drop a).take (b-a):=by
 unfold bytesOf;rw[← List.map_drop,← List.map_take]
 congr 1
 have:(s.extract a b).data=s.data.extract a b:=by simp
 rw[this,Array.toList_extract]
theorem Qne(s:ByteArray):s.size=(bytesOf s).length:=(Qdb s).symm
theorem val_le(s:ByteArray)(hs:s.size≤8):rval s=leI (bytesOf s):=by
 have hB:=Qmz s;have hlen:=Qdb s;have key:∀(d:Nat) (x:Int),d≤s.size→0≤x→x*256^d+leI ((bytesOf s).take d)<18446744073709551616 →
   Qba.l0 (d+1) s x ((d:Int)-1)=some (x*256^d+leI ((bytesOf s).take d)):=by
  intro d
  induction d with
  | zero =>
   intro x h h0 hx;unfold Qba.l0;rw[if_neg (by omega)];simp[leI]
  | succ d ih =>
   intro x h h0 hx;unfold Qba.l0;rw[show((d+1:Nat):Int)-1=(d:Int)by omega,if_pos (by omega),if_pos (by omega),if_pos (by omega),show wrap64 ((d:Int)-1)=(d:Int)-1 by unfold wrap64;omega];have hd:=rd_range hB (show d<(bytesOf s).length by omega);have hr:=Qna (hB.take d);rw[Qdc]at hd;have e2:leI ((bytesOf s).take (d+1))=leI ((bytesOf s).take d)+256^d*bt s (d:Int):=by
    rw[Qnc (by omega),Qnb,Qdc,List.length_take,Nat.min_eq_left (by omega)]
   have e3:x*256^(d+1)+leI ((bytesOf s).take (d+1))=(x*256+bt s (d:Int))*256^d+leI ((bytesOf s).take d):=by
    rw[e2,Int.pow_succ,Int.add_mul,Int.mul_comm (256^d) 256,← Int.mul_assoc,Int.mul_comm (256^d) (bt s (d:Int))];omega
   rw[e3]at hx ⊢;have hpow:(1:Int)≤256^d:=by
    have:=Nat.one_le_pow d 256 (by omega)
    exact_mod_cast this
   have hle:x*256+bt s (d:Int)≤(x*256+bt s (d:Int))*256^d:=by
    have h1:0≤x*256+bt s (d:Int):=by omega
    calc x*256+bt s (d:Int)=(x*256+bt s (d:Int))*1:=by omega
     _≤_:=Int.mul_le_mul_of_nonneg_left hpow h1
   have e4:IntKind.u64.wrap ((IntKind.u64.wrap (x*256))+(IntKind.u64.wrap (bt s (d:Int))))=x*256+bt s (d:Int):=by
    rw[IntWalk.u64_in (x*256) (by omega),IntWalk.u64_in (bt s (d:Int)) (by omega),IntWalk.u64_in _ (by omega)]
   rw[e4];exact ih (x*256+bt s (d:Int)) (by omega) (by omega) hx
 have hr:=Qna hB;have hp:(256:Int)^(bytesOf s).length≤18446744073709551616:=by
  have h1:(256:Nat)^(bytesOf s).length≤256^8:=Nat.pow_le_pow_right (by omega) (by omega);have h2:(256:Nat)^8=18446744073709551616:=by decide
  rw[h2]at h1;have h3:((256^(bytesOf s).length:Nat):Int)≤((18446744073709551616:Nat):Int):=Int.ofNat_le.2 h1;rw[Int.natCast_pow]at h3;exact h3
 have hall:(bytesOf s).take s.size=bytesOf s:=List.take_of_length_le (by omega);have h:=key s.size 0 (Nat.le_refl _) (Int.le_refl _) (by rw[hall];omega);rw[hall]at h;unfold rval Qba.f;rw[show wrap64 ((s.size:Int)-1)=(s.size:Int)-1 by unfold wrap64;omega,h];simp
theorem val_ext(s:ByteArray)(a b:Nat)(h:b-a≤8):rval (s.extract a b)=leI (((bytesOf s).drop a).take (b-a)):=by
 rw[val_le _ (Nat.le_trans (Qmr s a b) h),Qnd]
theorem Qnf(s:ByteArray)(a n:Nat)(hn:n≤8)(h:a+n≤s.size):rval (s.extract a (a+n))=numP n ((bytesOf s).drop a):=by
 rw[val_ext s a (a+n) (by omega),num_le n hn _ ((Qmz s).drop a) (by rw[List.length_drop,Qdb];omega),Nat.add_sub_cancel_left]
def R64(x:Int):Prop:=0≤x∧x<18446744073709551616
def RV(v:V4):Prop:=R64 v.1∧R64 v.2.1∧R64 v.2.2.1∧R64 v.2.2.2
theorem Qng(x y:Int):R64 (Qkb x y):=by
 unfold Qkb Qcm.f;rw[Qka _ _ ⟨by decide,by decide,by kernel_rfl⟩];exact u64r _
theorem Qnh(v:V4)(l:List Int):RV (Qkc v l):=⟨Qng _ _,Qng _ _,Qng _ _,Qng _ _⟩
theorem Qni(v:V4)(s:ByteArray)(h:32≤s.size):Qmj v s=Qkc v (bytesOf s):=by
 unfold Qmj Qkc;have h0:=Qnf s 0 8 (by omega) (by omega);have h1:=Qnf s 8 8 (by omega) (by omega);have h2:=Qnf s 16 8 (by omega) (by omega);have h3:=Qnf s 24 8 (by omega) (by omega);simp only[Qmy];rw[show(8:Nat)=0+8 from rfl,h0,show(0+8:Nat)=8 from rfl,h1,h2,h3];rfl
theorem Qnj:∀(m:Nat) (v:V4) (s:ByteArray),32*m≤s.size→RV v→(rrun m v s).1=Qkd m v (bytesOf s)∧bytesOf (rrun m v s).2=(bytesOf s).drop (32*m)∧RV (Qkd m v (bytesOf s))
 | 0,v,s,_,hv=>⟨rfl,by simp[rrun],hv⟩
 | m+1,v,s,h,hv=>by
  have hsz:(s.extract 32 s.size).size=s.size-32:=by simp
  have hb:bytesOf (s.extract 32 s.size)=(bytesOf s).drop 32:=by
   rw[Qnd];exact List.take_of_length_le (by rw[List.length_drop,Qdb];omega)
  obtain⟨h1,h2,h3⟩:=Qnj m (Qmj v s) (s.extract 32 s.size) (by omega) (by rw[Qni v s (by omega)];exact Qnh _ _);rw[hb,Qni v s (by omega)]at h1 h3;refine⟨?_,?_,h3⟩
  ·show(rrun m (Qmj v s) (s.extract 32 s.size)).1=Qkd m (Qkc v (bytesOf s)) ((bytesOf s).drop 32);rw[Qni v s (by omega)];exact h1
  ·show bytesOf (rrun m (Qmj v s) (s.extract 32 s.size)).2=_;rw[h2,hb,List.drop_drop]
   congr 1
   omega
theorem rotP_r(x:Int)(n:Nat)(hx:R64 x)(h0:0<n)(hn:n<64):R64 (rotP x (n:Int)):=by
 obtain⟨hx0,hx1⟩:=hx;obtain⟨y,rfl⟩:=Int.eq_ofNat_of_zero_le hx0;rw[Qmv y n (by omega) h0 hn];have:=Qmt y n (by omega) (by omega);unfold R64;omega
theorem Qnk(V:V4)(hV:RV V):rsum V=Qli 4 V:=by
 obtain⟨h1,h2,h3,h4⟩:=hV;rw[Qlo,Qln,Qlm,Qll,Qlk];unfold rsum;have r1:=rotP_r V.1 1 h1 (by omega) (by omega);rw[Qmx _ 1 h1.1 h1.2 (by omega) (by omega),Qmx _ 7 h2.1 h2.2 (by omega) (by omega),Qmx _ 12 h3.1 h3.2 (by omega) (by omega),Qmx _ 18 h4.1 h4.2 (by omega) (by omega)];rw[Int.zero_add,show((1:Nat):Int)=1 from rfl,show((7:Nat):Int)=7 from rfl,show((12:Nat):Int)=12 from rfl,show((18:Nat):Int)=18 from rfl];rw[show((1:Nat):Int)=1 from rfl]at r1;rw[IntWalk.u64_in (rotP V.1 1) ⟨r1.1,by have:=r1.2;omega⟩]
theorem Qnl(h:Int)(V:V4):rmix h V=Qlj 4 h V:=by
 rw[Qlt,Qls,Qlr,Qlq,Qlp];unfold rmix Qmk mixP;simp only[Qmy]
theorem Qnm{k:Nat}(x:Int)(n:Nat)(hx:R64 x)(h0:0<n)(hn:n<64)(hk:n+1≤k):Qbh.f k x (n:Int)=some (rotP x (n:Int)):=by
 rw[← Qmx x n hx.1 hx.2 h0 hn];exact Qdh (g:=fun k=>Qbh.f k x (n:Int)) (Qbh.mono x (n:Int)) hk (Qme x n (by omega))
theorem into_k{k:Nat}(x y:Int)(hk:32≤k):Qbf.f k x y=some (Qkb x y):=by
 rw[← Qmy];exact Qdh (g:=fun k=>Qbf.f k x y) (Qbf.mono x y) hk (Qmg x y)
theorem val_k{k:Nat}(s:ByteArray)(a n:Nat)(hn:n≤8)(h:a+n≤s.size)(hk:9≤k):Qba.f k (s.extract a (a+n))=some (numP n ((bytesOf s).drop a)):=by
 rw[← Qnf s a n hn h];have hs:(s.extract a (a+n)).size≤8:=Nat.le_trans (Qmr s a (a+n)) (by omega);exact Qdh (g:=fun k=>Qba.f k (s.extract a (a+n))) (Qba.mono _) (by omega) (Qmi _ (by omega))
theorem mix_k{k:Nat}(x:Int)(n:Nat)(hx:R64 x)(hn:n<64)(hk:n+1≤k):Qbg.f k x (n:Int)=some (Go.bits .xor .u64 x (x/2^n)):=by
 have key:∀(d i:Nat),i+d=n→Qbg.l0 (d+1) x (x/2^i) (n:Int) (i:Int)=some (Go.bits .xor .u64 x (x/2^n)):=by
  intro d
  induction d with
  | zero =>
   intro i h;unfold Qbg.l0;obtain rfl:i=n:=by omega
   rw[if_neg (by omega)]
  | succ d ih =>
   intro i h;unfold Qbg.l0;have hq:0≤x/2^i:=Int.ediv_nonneg hx.1 (Int.pow_nonneg (by decide));have hql:x/2^i≤x:=Int.ediv_le_self _ hx.1;have hx1:=hx.2;rw[if_pos (by omega),show wrap64 ((i:Int)+1)=((i+1:Nat):Int)by unfold wrap64;omega,Int.tdiv_eq_ediv_of_nonneg hq];have e:IntKind.u64.wrap (x/2^i/2)=x/2^(i+1):=by
    rw[IntWalk.u64_in _ (by omega),Int.pow_succ,Int.ediv_ediv_of_nonneg (Int.pow_nonneg (by decide))]
   rw[e];exact ih (i+1) (by omega)
 have h:=key n 0 (by omega);rw[show x/2^0=x by simp,show((0:Nat):Int)=0 from rfl]at h;exact Qdh (g:=fun k=>Qbg.f k x (n:Int)) (Qbg.mono x (n:Int)) hk h
theorem one1_r(h x:Int):R64 (one1 h x):=u64r _
theorem one4_r(h:Int)(l:List Int):R64 (one4 h l):=u64r _
theorem one8_r(h:Int)(l:List Int):R64 (one8 h l):=u64r _
theorem Qnn(op:BinOp)(x y:Int):R64 (Go.bits op .u64 x y):=(by unfold Go.bits;split<;>exact u64r _)
theorem fin_k{k:Nat}(h:Int)(hh:R64 h)(hk:34≤k):((Qbg.f k h 33).bind fun t335=>((Qbg.f k (IntKind.u64.wrap (t335*14029467366897019727)) 29).bind fun t336=>((Qbg.f k (IntKind.u64.wrap (t336*1609587929392839161)) 32).bind fun t337=>(some t337))))=some (finP h):=by
 rw[show(33:Int)=((33:Nat):Int) from rfl,mix_k h 33 hh (by omega) (by omega),Option.bind_some];rw[show(29:Int)=((29:Nat):Int) from rfl,mix_k _ 29 (u64r _) (by omega) (by omega),Option.bind_some];rw[show(32:Int)=((32:Nat):Int) from rfl,mix_k _ 32 (u64r _) (by omega) (by omega),Option.bind_some];rfl
theorem Qno(s:ByteArray)(hs:s.size≤4611686018427387904):∀(d i k:Nat) (h:Int),i+d=s.size→R64 h→d+40≤k→Qbd.l2 k s h (i:Int)=some (finP (((bytesOf s).drop i).foldl one1 h))
 | 0,i,k,h,hi,hh,hk=>by
  obtain⟨k,rfl⟩:∃m,k=m+1:=⟨k-1,by omega⟩;unfold Qbd.l2;rw[if_neg (by omega),fin_k h hh (by omega),List.drop_of_length_le (by rw[Qdb];omega)];rfl
 | d+1,i,k,h,hi,hh,hk=>by
  obtain⟨k,rfl⟩:∃m,k=m+1:=⟨k-1,by omega⟩;unfold Qbd.l2;rw[if_pos (by omega),if_pos (by omega),show(11:Int)=((11:Nat):Int) from rfl,Qnm _ 11 (Qnn _ _ _) (by omega) (by omega) (by omega),Option.bind_some,show wrap64 ((i:Int)+1)=((i+1:Nat):Int)by unfold wrap64;omega];have:=Qno s hs d (i+1) k (one1 h (bt s (i:Int))) (by omega) (one1_r _ _) (by omega);rw[List.drop_eq_getElem_cons (by rw[Qdb];omega),List.foldl_cons,← rd_get (l:=bytesOf s) (by rw[Qdb];omega),Qdc];exact this
theorem Qnp(s:ByteArray)(hs:s.size<4)(k:Nat)(h:Int)(hh:R64 h)(hk:60≤k):Qbd.l1 k s h=some (finP ((bytesOf s).foldl one1 h)):=by
 obtain⟨k,rfl⟩:∃m,k=m+1:=⟨k-1,by omega⟩;unfold Qbd.l1;rw[if_neg (by omega)];have:=Qno s (by omega) s.size 0 k h (by omega) hh (by omega);exact this
theorem Qnq(s:ByteArray)(a:Nat):(s.extract a s.size).size=s.size-a:=by simp
theorem Qnr(s:ByteArray)(a:Nat):bytesOf (s.extract a s.size)=(bytesOf s).drop a:=by
 rw[Qnd];exact List.take_of_length_le (by rw[List.length_drop,Qdb];omega)
theorem sum_l1(s:ByteArray)(hs:s.size<8)(k:Nat)(h:Int)(hh:R64 h)(hk:70≤k):Qbd.l1 k s h=some (if 4≤(bytesOf s).length then finP (((bytesOf s).drop 4).foldl one1 (one4 h (bytesOf s)))else finP ((bytesOf s).foldl one1 h)):=by
 by_cases h4:4≤s.size
 ·obtain⟨k,rfl⟩:∃m,k=m+1:=⟨k-1,by omega⟩;unfold Qbd.l1;rw[if_pos (by omega),if_pos (by omega),if_pos (by omega)];have hv:=val_k (k:=k) s 0 4 (by omega) (by omega) (by omega);rw[Nat.zero_add,List.drop_zero]at hv;rw[hv,Option.bind_some,show(23:Int)=((23:Nat):Int) from rfl,Qnm _ 23 (Qnn _ _ _) (by omega) (by omega) (by omega),Option.bind_some,if_pos (by rw[Qdb];omega),← Qnr];exact Qnp (s.extract 4 s.size) (by rw[Qnq];omega) k (one4 h (bytesOf s)) (one4_r _ _) (by omega)
 ·rw[if_neg (by rw[Qdb];omega)];exact Qnp s (by omega) k h hh (by omega)
theorem Qns(h:Int)(l:List Int)(hl:8≤l.length):sumP h l=sumP (one8 h l) (l.drop 8):=by
 unfold sumP;obtain⟨m,hm⟩:∃m,l.length/8=m+1:=⟨l.length/8-1,by omega⟩;have hm':(l.drop 8).length/8=m:=by rw[List.length_drop];omega
 have hd:(l.drop 8).drop (8*m)=l.drop (8*(m+1)):=by rw[List.drop_drop];congr 1;omega
 rw[hm,hm',hd];rfl
theorem Qnt:∀(m k:Nat) (s:ByteArray) (h:Int),s.size/8=m→R64 h→m+90≤k→Qbd.l0 k s h=some (sumP h (bytesOf s))
 | 0,k,s,h,hm,hh,hk=>by
  obtain⟨k,rfl⟩:∃m,k=m+1:=⟨k-1,by omega⟩;unfold Qbd.l0;rw[if_neg (by omega),sum_l1 s (by omega) k h hh (by omega)];unfold sumP;rw[show(bytesOf s).length/8=0 by rw[Qdb];exact hm];simp only[Nat.mul_zero,List.drop_zero,Qly]
 | m+1,k,s,h,hm,hh,hk=>by
  obtain⟨k,rfl⟩:∃m,k=m+1:=⟨k-1,by omega⟩;unfold Qbd.l0;rw[if_pos (by omega),if_pos (by omega),if_pos (by omega)];have hv:=val_k (k:=k) s 0 8 (by omega) (by omega) (by omega);rw[Nat.zero_add,List.drop_zero]at hv;rw[hv,Option.bind_some,into_k _ _ (by omega),Option.bind_some,show(27:Int)=((27:Nat):Int) from rfl,Qnm _ 27 (Qnn _ _ _) (by omega) (by omega) (by omega),Option.bind_some];rw[Qns h _ (by rw[Qdb];omega),← Qnr];exact Qnt m k (s.extract 8 s.size) (one8 h (bytesOf s)) (by rw[Qnq];omega) (one8_r _ _) (by omega)
theorem Qnu(sd:Int)(s:ByteArray)(k:Nat)(hsd:R64 sd)(hs:s.size≤4611686018427387904)(hk:s.size+100≤k):Qbd.f k sd s=some (Qlz sd (bytesOf s)):=by
 unfold Qbd.f Qlz;rw[Qdb,IntWalk.u64_in (s.size:Int) (by omega)]
 by_cases h32:32≤s.size
 ·rw[if_pos (by omega)];unfold Qbe.f;rw[if_pos (by omega),Option.bind_some];have hR:RV (Qml sd):=⟨u64r _,u64r _,hsd,u64r _⟩;obtain⟨h1,h2,h3⟩:=Qnj (s.size/32) (Qml sd) s (by omega) hR;obtain⟨k,rfl⟩:∃m,k=m+1:=⟨k-1,by omega⟩;have hj:∀a b c,Qbd.j0 (k+1) a b c=Qbd.l0 k a (IntKind.u64.wrap (c+b)):=fun _ _ _=>rfl
  rw[hj];have hsz:(rrun (s.size/32) (Qml sd) s).2.size=s.size-32*(s.size/32):=by
   rw[Qne,h2,List.length_drop,Qdb]
  have:=Qnt _ k (rrun (s.size/32) (Qml sd) s).2 (IntKind.u64.wrap (rmix (rsum (rrun (s.size/32) (Qml sd) s).1) (rrun (s.size/32) (Qml sd) s).1+(s.size:Int))) rfl (u64r _) (by rw[hsz];omega);rw[this,h2,h1,Qnl,Qnk _ h3];unfold Qlu;rw[if_neg (by omega)];rfl
 ·rw[if_neg (by omega)];obtain⟨k,rfl⟩:∃m,k=m+1:=⟨k-1,by omega⟩;have hj:∀a b c,Qbd.j0 (k+1) a b c=Qbd.l0 k a (IntKind.u64.wrap (c+b)):=fun _ _ _=>rfl
  rw[hj,Qnt _ k s _ rfl (u64r _) (by omega),show s.size/32=0 by omega];unfold Qlu;rw[if_pos (by omega)];rfl
theorem num_key(l:List Int)(hb:Bytes l)(c:l.length≤8):Qcn.l0 (l.length+1) l 0 (l.length:Int) 0=some (leI l):=by
 obtain⟨n,hl'⟩:∃n,n=l.length:=⟨_,rfl⟩;have hl:n≤l.length:=by omega
 have hn:n≤8:=by omega
 have key:∀(d i:Nat),i+d=n→Qcn.l0 (d+1) l (leI (l.take i)) (n:Int) (i:Int)=some (leI (l.take n)):=by
  intro d
  induction d with
  | zero =>
   intro i h;unfold Qcn.l0;obtain rfl:i=n:=by omega
   rw[if_neg (by omega)]
  | succ d ih =>
   intro i h;unfold Qcn.l0;have hw:wrap64 (8*(i:Int))=((8*i:Nat):Int):=by unfold wrap64;omega
   rw[if_pos (by omega),if_pos (by omega),if_pos (by omega),hw,if_pos (by omega),show wrap64 ((i:Int)+1)=((i+1:Nat):Int)by unfold wrap64;omega];have hr:=Qna (hb.take i);have hlen:(l.take i).length=i:=by rw[List.length_take];omega
   rw[hlen]at hr;have hd:=rd_range hb (show i<l.length by omega);have e:Go.bits .or .u64 (leI (l.take i)) (shl .u64 (IntKind.u64.wrap (rd l (i:Int))) ((8*i:Nat):Int))=leI (l.take (i+1)):=by
    rw[Qnc (by omega),Qnb,hlen,IntWalk.u64_in _ (by omega)];generalize rd l (i:Int)=b at *;generalize leI (l.take i)=a at *;obtain⟨a,rfl⟩:=Int.eq_ofNat_of_zero_le hr.1;obtain⟨b,rfl⟩:=Int.eq_ofNat_of_zero_le hd.1;have hp:(256:Nat)^i=2^(8*i):=by rw[Nat.pow_mul]
    have ha:a<2^(8*i):=by
     have:=hr.2;rw[← hp]
     exact_mod_cast this
    have hbig:b*2^(8*i)<2^64:=by
     have h1:b*2^(8*i)<2^8*2^(8*i):=Nat.mul_lt_mul_of_pos_right (by omega) (Nat.two_pow_pos _);have h2:(2:Nat)^8*2^(8*i)≤2^64:=by rw[← Nat.pow_add];exact Nat.pow_le_pow_right (by omega) (by omega)
     omega
    have ha2:a<2^64:=by
     have h2:(2:Nat)^(8*i)≤2^64:=Nat.pow_le_pow_right (by omega) (by omega);omega
    unfold shl;rw[show min ((8*i:Nat):Int).toNat IntKind.u64.bits=8*i by simp[IntKind.bits];omega,IntKind.wrap_u64];have e1:((b:Int)*2^(8*i))%18446744073709551616=((2^(8*i)*b:Nat):Int):=by
     have e2:((b:Int)*2^(8*i))=((b*2^(8*i):Nat):Int):=by push_cast;rfl
     rw[e2,Nat.mul_comm (2^(8*i)) b];omega
    rw[e1,bits_or_u64_nat _ _ (by omega) (by rw[Nat.mul_comm];omega),Nat.or_comm,← Nat.two_pow_add_eq_or_of_lt ha];have e3:((256:Int)^i*(b:Int))=((256^i*b:Nat):Int):=by push_cast;rfl
    rw[e3,hp];omega
   rw[e];exact ih (i+1) (by omega)
 have h:=key n 0 (by omega);rw[show leI (l.take 0)=0 from rfl,show((0:Nat):Int)=0 from rfl,hl',List.take_length]at h;exact h
theorem byte_key(b:Int)(hb:0≤b∧b<256):∃k x,Qcn.l0 k [b] 0 (([b]:List Int).length:Int) 0=some x∧IntKind.u8.wrap x=b:=by
 refine⟨_,_,num_key [b] (fun y hy=>by rw[List.mem_singleton.1 hy];exact hb) (by simp),?_⟩;simp only[leI];rw[show b+256*0=b by omega];exact IntWalk.u8_in _ (by omega)
theorem Qqs(a b:ByteArray):bytesOf (a++b)=bytesOf a++bytesOf b:=by
 unfold bytesOf;rw[← List.map_append]
 congr 1
theorem Qqt{x:Int}(h:0≤x∧x<256):((UInt8.ofNat x.toNat).toNat:Int)=x:=by
 obtain⟨n,rfl⟩:=Int.eq_ofNat_of_zero_le h.1;simp[UInt8.toNat_ofNat'];omega
theorem bytesOf_nums{l:List Int}(h:Bytes l):bytesOf (strOfNums l)=l:=by
 unfold bytesOf;rw[strOfNums_data,List.map_map]
 conv=>rhs;rw[← List.map_id l]
 apply List.map_congr_left;intro x hx;exact Qqt (h x hx)
theorem Qqu{a b:ByteArray}(h:bytesOf a=bytesOf b):a=b:=by
 have h1:a.data.toList=b.data.toList:=by
  unfold bytesOf at h;exact List.map_inj_right (f:=fun b:UInt8=>(b.toNat:Int)) (fun x y hxy=>UInt8.toNat_inj.1 (Int.ofNat.inj hxy)) |>.1 h
 have h2:a.data=b.data:=Array.toList_inj.1 h1
 cases a;cases b;simp_all
theorem Qqv(s:ByteArray):strOfNums (bytesOf s)=s:=Qqu (bytesOf_nums (Qmz s))
def Free(l:List Int):Prop:=∀x∈l,x≠0
theorem Qqw{c:Int}(h:0≤c∧c<256):(UInt8.ofNat c.toNat == (0:Int).toNat.toUInt8)=decide (c=0):=by
 rw[Bool.eq_iff_iff,beq_iff_eq,decide_eq_true_iff]
 constructor
 ·intro e;have h1:=Qqt h;rw[e]at h1
  simpa using h1.symm
 ·rintro rfl;rfl
theorem Qqx:∀ {l:List Int},Bytes l→Free l→ixOf l 0=-1
 | [],_,_=>rfl
 | c :: l,hb,hf=>by
  have h1:=hb c (List.mem_cons_self ..);have h2:=hf c (List.mem_cons_self ..);have ih:=Qqx (l:=l) (fun x hx=>hb x (List.mem_cons_of_mem _ hx)) (fun x hx=>hf x (List.mem_cons_of_mem _ hx));unfold ixOf at ih ⊢;simp only[Lib.bytesOf,List.map_cons,Lib.indexByte,Qqw h1]at ih ⊢;rw[ih];simp[h2]
theorem Qqy:∀ {a b:List Int},Bytes a→Free a→ixOf (a++0 :: b) 0=a.length
 | [],b,_,_=>by
  unfold ixOf;simp[Lib.bytesOf,Lib.indexByte]
 | c :: a,b,hb,hf=>by
  have h1:=hb c (List.mem_cons_self ..);have h2:=hf c (List.mem_cons_self ..);have ih:=Qqy (a:=a) (b:=b) (fun x hx=>hb x (List.mem_cons_of_mem _ hx)) (fun x hx=>hf x (List.mem_cons_of_mem _ hx));unfold ixOf at ih ⊢;simp only[Lib.bytesOf,List.cons_append,List.map_cons,Lib.indexByte,Qqw h1]at ih ⊢;rw[ih];have:((a.length:Int) == -1)=false:=by rw[beq_eq_false_iff_ne];omega
  simp[h2,this]
theorem Qqz{a:List Int}(hb:Bytes a)(hf:Free a)(n:Nat):ixOf (a.take n) 0=-1:=Qqx (hb.take n) (fun x hx=>hf x (List.mem_of_mem_take hx))
theorem Qra{now rest:List Int}(hb:Bytes now)(hf:Free now)(hl:now.length<254):Qkm (now++0 :: rest)=(((now.length:Int)+1)%256) :: (now++Qkm rest):=by
 have e:ixOf ((now++0 :: rest).take 254) 0=(now.length:Int):=by
  obtain⟨m,hm⟩:∃m,254-now.length=m+1:=⟨253-now.length,by omega⟩;rw[List.take_append,List.take_of_length_le (by omega),hm,List.take_succ_cons];exact Qqy hb hf
 rw[Qkp e,List.take_left',List.drop_append,List.drop_of_length_le (by omega)]
 ·simp
 ·rfl
theorem Qrb{now:List Int}(hb:Bytes now)(hf:Free now)(hl:now.length≤254):Qkm now=(((now.length:Int)+1)%256) :: now :=
 Qkr (by rw[Qqz hb hf];omega) (by omega)
theorem Qrc{now rest:List Int}(hb:Bytes now)(hf:Free now)(hl:now.length=254)(hr:rest≠[]):Qkm (now++rest)=255 :: (now++Qkm rest):=by
 have hr':0<rest.length:=List.length_pos_iff.2 hr;have e1:(now++rest).take 254=now:=by rw[← hl];exact List.take_left' rfl
 have e2:(now++rest).drop 254=rest:=by rw[← hl];exact List.drop_left' rfl
 rw[Qkq (by rw[e1,Qqx hb hf];omega) (by rw[List.length_append];omega),e1,e2]
theorem Qrd(s:ByteArray)(i:Nat):bt s (i:Int)=rd (bytesOf s) (i:Int):=(Qdc s (i:Int)).symm
theorem ext_one(s:ByteArray)(i:Nat)(h:i<s.size):bytesOf (s.extract i (i+1))=[bt s (i:Int)]:=by
 rw[Qnd,Qrd,rd_get (by rw[Qdb];exact h),Nat.add_sub_cancel_left,List.drop_eq_getElem_cons (by rw[Qdb];exact h)];rfl
theorem Qre(s:ByteArray):s.toList=([]:List UInt8)↔s.size=0:=by
 constructor
 ·intro h;have h1:s.toList.length=s.size:=by rw[Lib.toList_data,Qda]
  rw[h]at h1
  simpa using h1.symm
 ·intro h;have h1:s.toList.length=s.size:=by rw[Lib.toList_data,Qda]
  exact List.eq_nil_of_length_eq_zero (by omega)
theorem Qrf(i:Nat)(h:i<4611686018427387904):wrap64 ((i:Int)+1)=((i+1:Nat):Int):=by unfold wrap64;omega
def Qrg(L now rest:List Int)(i:Nat):List Int:=if now=[]∧rest=[]∧0<i∧rd L ((i:Int)-1)≠0 then []else Qkm (now++rest)
theorem Qrh(k:Nat)(all out now:ByteArray)(i:Nat)(hs:out.size+now.size+1≤9223372036854775807)(hn:now.size<254)(hi:i<4611686018427387904) :
  ∃o',bytesOf o'=bytesOf out++((((bytesOf now).length:Int)+1)%256) :: bytesOf now∧Qbi.j1 (k+1) all out now (i:Int) false=Qbi.l0 k all o' (⟨#[]⟩:ByteArray) ((i+1:Nat):Int):=by
 have hw:wrap64 ((now.size:Int)+1)%256=(now.size:Int)+1:=by unfold wrap64;omega
 have hsz:(strOfNums [(now.size:Int)+1]).size=1:=by rw[strOfNums_size];rfl
 refine⟨(out++strOfNums [(now.size:Int)+1])++now,?_,?_⟩
 ·rw[Qqs,Qqs,bytesOf_nums (by intro x hx;simp at hx;omega),Qdb,List.append_assoc];rw[show((now.size:Int)+1)%256=(now.size:Int)+1 by omega];rfl
 ·unfold Qbi.j1;rw[if_neg (by decide),Option.bind_some,hw,if_pos (by omega),if_pos (by rw[ByteArray.size_append];omega),show wrap64 ((i:Int)+1)=((i+1:Nat):Int)by unfold wrap64;omega]
theorem Qri(s:ByteArray)(hs:s.size≤1152921504606846976):∀(d i k:Nat) (out now:ByteArray),i+d=s.size→Free (bytesOf now)→now.size<254→out.size+now.size≤4*i→2*d+5≤k →
  ∃o',Qbi.l0 k (s++(⟨#[0]⟩:ByteArray)) out now (i:Int)=some o'∧bytesOf o'=bytesOf out++Qrg (bytesOf s) (bytesOf now) ((bytesOf s).drop i) i
 | 0, i,k,out,now,hi,hf,hn,ho,hk=>by
  obtain⟨k,rfl⟩:∃m,k=m+3:=⟨k-3,by omega⟩;have hall:(s++(⟨#[0]⟩:ByteArray)).size=s.size+1:=by rw[ByteArray.size_append];rfl
  have hbA:bytesOf (s++(⟨#[0]⟩:ByteArray))=bytesOf s++[0]:=by rw[Qqs];rfl
  have hlen:=Qdb s;have hbt:bt (s++(⟨#[0]⟩:ByteArray)) (i:Int)=0:=by
   rw[Qrd,rd_get (by rw[hbA,List.length_append,hlen];simp;omega)];simp only[hbA];rw[List.getElem_append_right (by omega)];simp
  have hd:(bytesOf s).drop i=[]:=List.drop_of_length_le (by omega);have hwl:wrap64 (((s++(⟨#[0]⟩:ByteArray)).size:Int)-1)=(i:Int):=by rw[hall];unfold wrap64;omega
  have hnl:=Qdb now;have hend:∀(o:ByteArray) (m:Nat),Qbi.l0 (m+1) (s++(⟨#[0]⟩:ByteArray)) o (⟨#[]⟩:ByteArray) ((i+1:Nat):Int)=some o:=by
   intro o m;unfold Qbi.l0;rw[if_neg (by rw[hall];omega)]
  obtain⟨oj,hj1,hj2⟩:=Qrh (k+1) (s++(⟨#[0]⟩:ByteArray)) out now i (by omega) hn (by omega);have hstf:Qkm (bytesOf now++[])=((((bytesOf now).length:Int)+1)%256) :: bytesOf now:=by
   rw[List.append_nil];exact Qrb (Qmz now) hf (by omega)
  unfold Qbi.l0;rw[if_pos (by rw[hall];omega),if_pos (by omega),hbt,if_pos rfl,hwl,if_pos rfl]
  by_cases hne:now.size=0
  ·rw [if_pos ((Qre now).2 hne)];have b:bytesOf now=[]:=List.eq_nil_of_length_eq_zero (by omega)
   by_cases h0:0<i
   ·have hw1:wrap64 ((i:Int)-1)=((i-1:Nat):Int):=by unfold wrap64;omega
    rw[if_pos (by omega),hw1,if_pos (by omega),if_pos (by rw[hall];omega)];have hb1:bt (s++(⟨#[0]⟩:ByteArray)) ((i-1:Nat):Int)=rd (bytesOf s) ((i:Int)-1):=by
     rw[show(i:Int)-1=((i-1:Nat):Int)by omega,Qrd,rd_get (by rw[hbA,List.length_append,hlen];simp;omega),rd_get (by omega)];simp only[hbA];rw[List.getElem_append_left (by omega)]
    rw[hb1]
    by_cases hz:rd (bytesOf s) ((i:Int)-1)=0
    ·rw[hz,show((0:Int) != 0)=false from rfl,hj2];refine⟨oj,hend _ _,?_⟩;rw[hj1,hd];unfold Qrg;rw[if_neg (by intro h;exact h.2.2.2 hz),hstf]
    ·refine⟨out,?_,?_⟩
     ·unfold Qbi.j1;rw[if_pos (by simpa using hz)]
     ·rw[hd];unfold Qrg;rw[if_pos ⟨b,rfl,h0,hz⟩,List.append_nil]
   ·rw[if_neg (by omega),hj2];refine⟨oj,hend _ _,?_⟩;rw[hj1,hd];unfold Qrg;rw[if_neg (by intro h;exact h0 h.2.2.1),hstf]
  ·rw[if_neg (by intro h;exact hne ((Qre now).1 h)),hj2];refine⟨oj,hend _ _,?_⟩;rw[hj1,hd];unfold Qrg;rw[if_neg (by intro h;have:=h.1;rw[this]at hnl;exact hne hnl.symm),hstf]
 | d + 1,i,k,out,now,hi,hf,hn,ho,hk=>by
  obtain⟨k,rfl⟩:∃m,k=m+2:=⟨k-2,by omega⟩;have hall:(s++(⟨#[0]⟩:ByteArray)).size=s.size+1:=by rw[ByteArray.size_append];rfl
  have hbA:bytesOf (s++(⟨#[0]⟩:ByteArray))=bytesOf s++[0]:=by rw[Qqs];rfl
  have hlen:=Qdb s;have hil:i<(bytesOf s).length:=by omega
  obtain⟨c,hc⟩:∃c,c=(bytesOf s)[i]:=⟨_,rfl⟩;have hbt:bt (s++(⟨#[0]⟩:ByteArray)) (i:Int)=c:=by
   rw[Qrd,rd_get (by rw[hbA,List.length_append];omega),hc];simp only[hbA];rw[List.getElem_append_left hil]
  have hcb:0≤c∧c<256:=by rw[hc];exact Qmz s _ (List.getElem_mem hil)
  have hdrop:(bytesOf s).drop i=c :: (bytesOf s).drop (i+1):=by rw[hc];exact List.drop_eq_getElem_cons hil
  have hrd:rd (bytesOf s) (((i+1:Nat):Int)-1)=c:=by rw[show(((i+1:Nat):Int)-1)=(i:Int)by omega,rd_get hil,hc]
  have hnl:=Qdb now;have hnot:¬(i:Int)=wrap64 (((s++(⟨#[0]⟩:ByteArray)).size:Int)-1):=by rw[hall];unfold wrap64;omega
  have hnil:bytesOf (⟨#[]⟩:ByteArray)=[]:=rfl;rw[hdrop];unfold Qbi.l0;rw[if_pos (by rw[hall];omega),if_pos (by omega),hbt]
  by_cases hz:c=0
  ·subst hz;rw[if_pos rfl,if_neg hnot];obtain⟨oj,hj1,hj2⟩:=Qrh k (s++(⟨#[0]⟩:ByteArray)) out now i (by omega) hn (by omega);have hjs:oj.size=out.size+now.size+1:=by
    have:=congrArg List.length hj1;rw[Qdb,List.length_append,List.length_cons,Qdb,Qdb]at this;omega
   rw[hj2];obtain⟨o',h1,h2⟩:=Qri s hs d (i+1) k oj (⟨#[]⟩:ByteArray) (by omega) (by intro x hx;rw[hnil]at hx;cases hx) (by decide) (by rw[hjs];show _+0≤_;omega) (by omega);refine⟨o',h1,?_⟩;rw[h2,hj1,hnil];unfold Qrg;rw[if_neg (by intro h;exact h.2.2.2 hrd),if_neg (by intro h;cases h.2.1),List.nil_append,Qra (Qmz now) hf (by omega)];simp
  ·rw[if_neg hz,Qrf i (by omega),if_pos (by omega),if_pos (by rw[hall];omega)];obtain⟨x1,a⟩:∃x1,x1=(s++(⟨#[0]⟩:ByteArray)).extract (i:Int).toNat ((i+1:Nat):Int).toNat:=⟨_,rfl⟩;have hxb:bytesOf x1=[c]:=by
    rw[a,Int.toNat_natCast,Int.toNat_natCast,ext_one _ _ (by rw[hall];omega),hbt]
   have hxs:x1.size=1:=by rw[Qne,hxb];rfl
   rw[← a,if_pos (by omega)];have hnb:bytesOf (now++x1)=bytesOf now++[c]:=by rw[Qqs,hxb]
   have hns:(now++x1).size=now.size+1:=by rw[ByteArray.size_append,hxs]
   have hfree:Free (bytesOf now++[c]):=by
    intro x hx
    rcases List.mem_append.1 hx with h|h
    ·exact hf x h
    ·simp at h;rw[h];exact hz
   by_cases hfull:((now++x1).size:Int)=254
   ·rw[if_pos hfull,if_pos (by omega)];have hos:(out++(⟨#[255]⟩:ByteArray)).size=out.size+1:=by rw[ByteArray.size_append];rfl
    rw[if_pos (by rw[hos];omega)];obtain⟨o',h1,h2⟩:=Qri s hs d (i+1) (k+1) ((out++(⟨#[255]⟩:ByteArray))++(now++x1)) (⟨#[]⟩:ByteArray) (by omega) (by intro x hx;rw[hnil]at hx;cases hx) (by decide) (by rw[ByteArray.size_append,hos];show _+0≤_;omega) (by omega);refine⟨o',h1,?_⟩;rw[h2,Qqs,Qqs,hnb,hnil,show bytesOf (⟨#[255]⟩:ByteArray)=[255] from rfl];have hl254:(bytesOf now++[c]).length=254:=by rw[List.length_append,hnl];simp;omega
    have hbb:Bytes (bytesOf now++[c]):=by rw[← hnb];exact Qmz _
    unfold Qrg
    by_cases hr:(bytesOf s).drop (i+1)=[]
    ·rw[if_pos ⟨rfl,hr,by omega,by rw[hrd];exact hz⟩,if_neg (by intro h;cases h.2.1),hr,Qrb hbb hfree (by omega),hl254];simp
    ·rw[if_neg (by intro h;exact hr h.2.1),if_neg (by intro h;cases h.2.1),List.nil_append];have:=Qrc hbb hfree hl254 hr;rw[List.append_assoc]at this;rw[show bytesOf now++c :: (bytesOf s).drop (i+1)=bytesOf now++([c]++(bytesOf s).drop (i+1)) from rfl,this];simp
   ·rw[if_neg hfull];obtain⟨o',h1,h2⟩:=Qri s hs d (i+1) (k+1) out (now++x1) (by omega) (by rw[hnb];exact hfree) (by omega) (by omega) (by omega);refine⟨o',h1,?_⟩;rw[h2,hnb];unfold Qrg;rw[if_neg (by intro h;have:=h.1;simp at this),if_neg (by intro h;cases h.2.1)];simp
theorem Qrj(s:ByteArray)(k:Nat)(hs:s.size≤1152921504606846976)(hk:2*s.size+5≤k):∃o',Qbi.f k s=some o'∧bytesOf o'=Qkm (bytesOf s):=by
 have hnil:bytesOf (⟨#[]⟩:ByteArray)=[]:=rfl;obtain⟨o',h1,h2⟩:=Qri s hs s.size 0 k (⟨#[]⟩:ByteArray) (⟨#[]⟩:ByteArray) (by omega) (by intro x hx;rw[hnil]at hx;cases hx) (by decide) (by decide) hk;refine⟨o',?_,?_⟩
 ·unfold Qbi.f;rw[if_pos (by omega)];exact h1
 ·rw[h2,hnil];unfold Qrg;rw[if_neg (by intro h;exact absurd h.2.2.1 (by omega))];simp
end Go.Proofs.YteaocbonofboeaaGreat.CodecP
end
