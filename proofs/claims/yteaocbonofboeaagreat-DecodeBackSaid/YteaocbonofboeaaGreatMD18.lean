/- Merged texts. -/
import Derived.Test.YteaocbonofboeaaGreatMD17
import Derived.Test.YteaocbonofboeaaGreatMD10
import Derived.Test.YteaocbonofboeaaGreatMD05
import Derived.Test.YteaocbonofboeaaGreatMD09
import Derived.Test.YteaocbonofboeaaGreatMD14
import Derived.Test.YteaocbonofboeaaGreatMD13
import Derived.Test.YteaocbonofboeaaGreatMD06
import Derived.Test.YteaocbonofboeaaGreatMD16
set_option linter.unusedVariables false
set_option linter.unusedSimpArgs false
set_option maxHeartbeats 8000000
set_option maxRecDepth 100000
section
namespace Go.Proofs.YteaocbonofboeaaGreat.CodecP
open Go.RowKit Go.Proofs.YteaocbonofboeaaGreat.C Go.Proofs.YteaocbonofboeaaGreatW.PrintWords Go.Proofs.YteaocbonofboeaaGreatW.PrintLast Go.Proofs.YteaocbonofboeaaGreatW.PrintMore
theorem num_key(l:List Int)(hb:Bytes l)(c:l.length≤8):Qcd.l0 (l.length+1) l 0 (l.length:Int) 0=some (leI l):=by
 obtain⟨n,hl'⟩:∃n,n=l.length:=⟨_,rfl⟩;have hl:n≤l.length:=by omega
 have hn:n≤8:=by omega
 have key:∀(d i:Nat),i+d=n→Qcd.l0 (d+1) l (leI (l.take i)) (n:Int) (i:Int)=some (leI (l.take n)):=by
  intro d
  induction d with
  | zero =>
   intro i h;unfold Qcd.l0;obtain rfl:i=n:=by omega
   rw[if_neg (by omega)]
  | succ d ih =>
   intro i h;unfold Qcd.l0;have hw:wrap64 (8*(i:Int))=((8*i:Nat):Int):=by unfold wrap64;omega
   rw[if_pos (by omega),if_pos (by omega),if_pos (by omega),hw,if_pos (by omega),show wrap64 ((i:Int)+1)=((i+1:Nat):Int)by unfold wrap64;omega];have hr:=leI_range (hb.take i);have hlen:(l.take i).length=i:=by rw[List.length_take];omega
   rw[hlen]at hr;have hd:=rd_range hb (show i<l.length by omega);have e:Go.bits .or .u64 (leI (l.take i)) (shl .u64 (IntKind.u64.wrap (rd l (i:Int))) ((8*i:Nat):Int))=leI (l.take (i+1)):=by
    rw[Qoh (by omega),Qog,hlen,IntWalk.u64_in _ (by omega)];generalize rd l (i:Int)=b at *;generalize leI (l.take i)=a at *;obtain⟨a,rfl⟩:=Int.eq_ofNat_of_zero_le hr.1;obtain⟨b,rfl⟩:=Int.eq_ofNat_of_zero_le hd.1;have hp:(256:Nat)^i=2^(8*i):=by rw[Nat.pow_mul]
    have ha:a<2^(8*i):=by
     have:=hr.2;rw[← hp]
     exact_mod_cast this
    have hbig:b*2^(8*i)<2^64:=by
     have h1:b*2^(8*i)<2^8*2^(8*i):=Nat.mul_lt_mul_of_pos_right (by omega) (Nat.two_pow_pos _);have h2:(2:Nat)^8*2^(8*i)≤2^64:=by rw[← Nat.pow_add];exact Nat.pow_le_pow_right (by omega) (by omega)
     omega
    have ha2:a<2^64:=by
     have h2:(2:Nat)^(8*i)≤2^64:=Nat.pow_le_pow_right (by omega) (by omega);omega
    unfold shl;rw[show min ((8*i:Nat):Int).toNat IntKind.u64.bits=8*i by simp[IntKind.bits];omega,IntKind.wrap_u64];have e1:((b:Int)*2^(8*i))%18446744073709551616=((2^(8*i)*b:Nat):Int):=by
     have e2:((b:Int)*2^(8*i))=((b*2^(8*i):Nat):Int):=by push_cast;rfl
     rw[e2,Nat.mul_comm (2^(8*i)) b];omega
    rw[e1,bits_or_u64_nat _ _ (by omega) (by rw[Nat.mul_comm];omega),Nat.or_comm,← Nat.two_pow_add_eq_or_of_lt ha];have e3:((256:Int)^i*(b:Int))=((256^i*b:Nat):Int):=by push_cast;rfl
    rw[e3,hp];omega
   rw[e];exact ih (i+1) (by omega)
 have h:=key n 0 (by omega);rw[show leI (l.take 0)=0 from rfl,show((0:Nat):Int)=0 from rfl,hl',List.take_length]at h;exact h
theorem byte_key(b:Int)(hb:0≤b∧b<256):∃k x,Qcd.l0 k [b] 0 (([b]:List Int).length:Int) 0=some x∧IntKind.u8.wrap x=b:=by
 refine⟨_,_,num_key [b] (fun y hy=>by rw[List.mem_singleton.1 hy];exact hb) (by simp),?_⟩;simp only[leI];rw[show b+256*0=b by omega];exact IntWalk.u8_in _ (by omega)
theorem Qrv{x:Int}(h:0≤x∧x<256):((UInt8.ofNat x.toNat).toNat:Int)=x:=by
 obtain⟨n,rfl⟩:=Int.eq_ofNat_of_zero_le h.1;simp[UInt8.toNat_ofNat'];omega
theorem bytesOf_nums{l:List Int}(h:Bytes l):bytesOf (strOfNums l)=l:=by
 unfold bytesOf;rw[strOfNums_data,List.map_map]
 conv=>rhs;rw[← List.map_id l]
 apply List.map_congr_left;intro x hx;exact Qrv (h x hx)
theorem Qrw{a b:ByteArray}(h:bytesOf a=bytesOf b):a=b:=by
 have h1:a.data.toList=b.data.toList:=by
  unfold bytesOf at h;exact List.map_inj_right (f:=fun b:UInt8=>(b.toNat:Int)) (fun x y hxy=>UInt8.toNat_inj.1 (Int.ofNat.inj hxy)) |>.1 h
 have h2:a.data=b.data:=Array.toList_inj.1 h1
 cases a;cases b;simp_all
theorem Qrx(s:ByteArray):strOfNums (bytesOf s)=s:=Qrw (bytesOf_nums (Qof s))
def Free(l:List Int):Prop:=∀x∈l,x≠0
theorem Qry{c:Int}(h:0≤c∧c<256):(UInt8.ofNat c.toNat == (0:Int).toNat.toUInt8)=decide (c=0):=by
 rw[Bool.eq_iff_iff,beq_iff_eq,decide_eq_true_iff]
 constructor
 ·intro e;have h1:=Qrv h;rw[e]at h1
  simpa using h1.symm
 ·rintro rfl;rfl
theorem Qrz:∀ {l:List Int},Bytes l→Free l→ixOf l 0=-1
 | [],_,_=>rfl
 | c :: l,hb,hf=>by
  have h1:=hb c (List.mem_cons_self ..);have h2:=hf c (List.mem_cons_self ..);have ih:=Qrz (l:=l) (fun x hx=>hb x (List.mem_cons_of_mem _ hx)) (fun x hx=>hf x (List.mem_cons_of_mem _ hx));unfold ixOf at ih ⊢;simp only[Lib.bytesOf,List.map_cons,Lib.indexByte,Qry h1]at ih ⊢;rw[ih];simp[h2]
theorem Qsa:∀ {a b:List Int},Bytes a→Free a→ixOf (a++0 :: b) 0=a.length
 | [],b,_,_=>by
  unfold ixOf;simp[Lib.bytesOf,Lib.indexByte]
 | c :: a,b,hb,hf=>by
  have h1:=hb c (List.mem_cons_self ..);have h2:=hf c (List.mem_cons_self ..);have ih:=Qsa (a:=a) (b:=b) (fun x hx=>hb x (List.mem_cons_of_mem _ hx)) (fun x hx=>hf x (List.mem_cons_of_mem _ hx));unfold ixOf at ih ⊢;simp only[Lib.bytesOf,List.cons_append,List.map_cons,Lib.indexByte,Qry h1]at ih ⊢;rw[ih];have:((a.length:Int) == -1)=false:=by rw[beq_eq_false_iff_ne];omega
  simp[h2,this]
theorem Qsb{a:List Int}(hb:Bytes a)(hf:Free a)(n:Nat):ixOf (a.take n) 0=-1:=Qrz (hb.take n) (fun x hx=>hf x (List.mem_of_mem_take hx))
theorem Qsc{now rest:List Int}(hb:Bytes now)(hf:Free now)(hl:now.length<254):Qjq (now++0 :: rest)=(((now.length:Int)+1)%256) :: (now++Qjq rest):=by
 have e:ixOf ((now++0 :: rest).take 254) 0=(now.length:Int):=by
  obtain⟨m,hm⟩:∃m,254-now.length=m+1:=⟨253-now.length,by omega⟩;rw[List.take_append,List.take_of_length_le (by omega),hm,List.take_succ_cons];exact Qsa hb hf
 rw[Qjt e,List.take_left',List.drop_append,List.drop_of_length_le (by omega)]
 ·simp
 ·rfl
theorem Qsd{now:List Int}(hb:Bytes now)(hf:Free now)(hl:now.length≤254):Qjq now=(((now.length:Int)+1)%256) :: now :=
 Qjv (by rw[Qsb hb hf];omega) (by omega)
theorem Qse{now rest:List Int}(hb:Bytes now)(hf:Free now)(hl:now.length=254)(hr:rest≠[]):Qjq (now++rest)=255 :: (now++Qjq rest):=by
 have hr':0<rest.length:=List.length_pos_iff.2 hr;have e1:(now++rest).take 254=now:=by rw[← hl];exact List.take_left' rfl
 have e2:(now++rest).drop 254=rest:=by rw[← hl];exact List.drop_left' rfl
 rw[Qju (by rw[e1,Qrz hb hf];omega) (by rw[List.length_append];omega),e1,e2]
theorem Qsf(s:ByteArray):s.toList=([]:List UInt8)↔s.size=0:=by
 constructor
 ·intro h;have h1:s.toList.length=s.size:=by rw[Lib.toList_data,Qco]
  rw[h]at h1
  simpa using h1.symm
 ·intro h;have h1:s.toList.length=s.size:=by rw[Lib.toList_data,Qco]
  exact List.eq_nil_of_length_eq_zero (by omega)
theorem Qsg(i:Nat)(h:i<4611686018427387904):wrap64 ((i:Int)+1)=((i+1:Nat):Int):=by unfold wrap64;omega
theorem Qsh(i:Nat)(h0:0<i)(h:i<4611686018427387904):wrap64 ((i:Int)-1)=((i-1:Nat):Int):=by unfold wrap64;omega
theorem Qtk:∀(n:Nat) (b:List Int),b.length≤n→b.length<254→(Qjq b).length=b.length+1
 | n,b,hn,h=>by
  rcases Int.lt_or_le (ixOf (b.take 254) 0) 0 with h0|h0
  ·rw[Qjv h0 (by omega)];simp
  ·obtain⟨p,hp⟩:=Int.eq_ofNat_of_zero_le h0;have h1:=(Qjo (b.take 254) 0).2;rw[List.length_take,hp]at h1;rw[Qjt hp]
   match n,hn with
   | 0,hn=>omega
   | n+1,hn =>
    have ih:=Qtk n (b.drop (p+1)) qq_24 qq_24;rw[List.length_cons,List.length_append,ih,List.length_take,List.length_drop];omega
theorem Qtl:∀(n:Nat) (x y:Int),0≤x→x≤y→(vput n x).length≤(vput n y).length
 | 0,_,_,_,_=>by simp[vput]
 | n+1,x,y,h0,h=>by
  have ih:=Qtl n (x/128) (y/128) (by omega) (by omega);unfold vput
  by_cases hy:y<128
  ·rw[if_pos hy,if_pos (by omega)];simp
  ·rw[if_neg hy]
   by_cases hx:x<128
   ·rw[if_pos hx];simp
   ·rw[if_neg hx];simp;omega
def Qtm(e s n:Int):Int:=((Qlf e s n).length:Int)
theorem Qtn(e s n:Int):Qtm e s n=3+(vput 9 s).length+(vput 9 n).length+10:=by
 unfold Qtm Qlf Qla;have h1:=Qjy 9 s;have h2:=Qjy 9 n;have hl:([1,2,e]++vput 9 s++vput 9 n++leb (Qkt 0 ([1,2,e]++vput 9 s++vput 9 n)) 8).length=3+(vput 9 s).length+(vput 9 n).length+8:=by
  rw[List.length_append,List.length_append,List.length_append,Qiq];rfl
 rw[List.length_append,Qtk _ _ (Nat.le_refl _) (by rw[hl];omega),hl];simp;omega
theorem Qto(e s n:Int):0≤Qtm e s n∧Qtm e s n≤100:=by
 rw[Qtn];have h1:=Qjy 9 s;have h2:=Qjy 9 n;omega
theorem Qtp(e s:Int){n m:Int}(h0:0≤n)(h:n≤m):Qtm e s n≤Qtm e s m:=by
 rw[Qtn,Qtn];have:=Qtl 9 n m h0 h;omega
def Qtq(n:Int):Int:=9+12*n+8*((n+15)/16)+8+1+(9+12*n+8*((n+15)/16)+8-1)/254+1
def szN(e:Int):Int:=2^e.toNat
def Good(e s:Int):Prop:=12≤e∧e≤24∧1≤s∧s≤65536
theorem Qtr{e s:Int}(h:Good e s):Qao.f e s=some 0:=by
 obtain⟨h1,h2,h3,h4⟩:=h;unfold Qao.f;rw[if_neg (by omega),if_neg (by omega),if_neg (by omega),if_neg (by omega)]
theorem Qts{e s:Int}(h:¬Good e s):Qao.f e s=some 1:=by
 unfold Qao.f
 by_cases h1:e<12
 ·rw[if_pos h1]
 by_cases h2:e > 24
 ·rw[if_neg h1,if_pos h2]
 by_cases h3:s<1
 ·rw[if_neg h1,if_neg h2,if_pos h3]
 by_cases h4:s > 65536
 ·rw[if_neg h1,if_neg h2,if_neg h3,if_pos h4]
 ·exact absurd ⟨by omega,by omega,by omega,by omega⟩ h
theorem Qtt{e:Int}(h1:12≤e)(h2:e≤24):4096≤szN e∧szN e≤16777216:=by
 unfold szN;obtain⟨n,rfl⟩:=Int.eq_ofNat_of_zero_le (show 0≤e by omega);rw[Int.toNat_natCast];have h3:(2:Nat)^12≤2^n:=Nat.pow_le_pow_right (by omega) (by omega);have h4:(2:Nat)^n≤2^24:=Nat.pow_le_pow_right (by omega) (by omega);have h5:((2^n:Nat):Int)=(2:Int)^n:=by rw[Int.natCast_pow];rfl
 rw[← h5];omega
theorem Qtu{e s:Int}(h:Good e s):Qaq.f e s=some (szN e):=by
 have hr:=Qtt h.1 h.2.1;unfold Qaq.f;rw[Qtr h,Option.bind_some,if_pos rfl,if_pos (by have:=h.1;omega)]
 congr 1
 unfold shl;have hm:min e.toNat IntKind.i64.bits=e.toNat:=by simp[IntKind.bits];have:=h.2.1;omega
 rw[hm,Int.one_mul];exact IntWalk.i64_in _ (by unfold szN at hr;omega)
theorem Qtv(c:Int)(h0:0≤c)(h1:c≤16777216):Qbc.f c=some (Qtq c):=by
 have hm:mx 0 c=c:=by unfold mx;split<;>omega
 have hf:Qbb.f c=some ((c+15)/16):=by
  unfold Qbb.f;rw[hm];have e1:wrap64 ((wrap64 (c+16))-1)=c+15:=by unfold wrap64;omega
  rw[e1,Int.tdiv_eq_ediv_of_nonneg (by omega)]
  congr 1
  unfold wrap64;omega
 have ha:wrap64 ((wrap64 (9+(wrap64 (12*c))))+(wrap64 (8*((c+15)/16))))=9+12*c+8*((c+15)/16):=by unfold wrap64;omega
 unfold Qbc.f;rw[hm,hf,Option.bind_some,ha];obtain⟨m,hmm⟩:∃m,m=9+12*c+8*((c+15)/16):=⟨_,rfl⟩;have hm0:0≤m:=by omega
 have hm1:m≤1000000000:=by omega
 unfold Qtq;rw[← hmm];clear hmm ha hf hm;have hx:mx 0 m=m:=by unfold mx;split<;>omega
 unfold Qbi.f Qal.f;rw[hx];have e1:wrap64 (m+8)=m+8:=by unfold wrap64;omega
 rw[e1,if_neg (by omega)];have e2:wrap64 (m+8-1)=m+8-1:=by unfold wrap64;omega
 rw[e2,Int.tdiv_eq_ediv_of_nonneg (by omega),Option.bind_some,Option.bind_some]
 congr 1
 unfold wrap64;omega
theorem Qtw(c:Int)(h0:0≤c)(h1:c≤16777216):12*c≤Qtq c∧Qtq c≤1000000000:=by unfold Qtq;omega
def Qtx(e u c x:Int):Bool:=decide (1≤x∧u+x+Qtq (c+1)≤szN e)
theorem Qty{e s:Int}(h:Good e s)(n u c x:Int)(hu0:0≤u)(hu1:u≤16777216)(hc0:0≤c)(hc1:c≤8388608)(hx1:x≤1152921504606846976):Qbo.f e s n u c x=some (Qtx e u c x):=by
 have hz:=Qtt h.1 h.2.1;have hm:=Qtw (c+1) (by omega) (by omega);unfold Qbo.f Qtx
 by_cases hx:x≥1
 ·rw[if_pos hx];unfold Qbp.f;rw[Qtu h,Option.bind_some,show wrap64 (c+1)=c+1 by unfold wrap64;omega,Qtv (c+1) (by omega) (by omega),Option.bind_some,Option.bind_some]
  congr 1
  have e1:wrap64 (wrap64 (szN e-u)-Qtq (c+1))=szN e-u-Qtq (c+1):=by unfold wrap64;omega
  rw[e1];unfold mx;rw[decide_eq_decide];split<;>omega
 ·rw[if_neg hx]
  congr 1
  symm
  rw[decide_eq_false_iff_not];omega
theorem Qtz{e u c x:Int}(h:Qtx e u c x=true):1≤x∧u+x+Qtq (c+1)≤szN e:=by simpa [Qtx]using h
theorem Qua{e s:Int}(h:Good e s)(n u c x:Int)(hu0:0≤u)(hu1:u≤16777216)(hc0:0≤c)(hc1:c≤8388608)(hx1:x≤1152921504606846976)(hf:Qtx e u c x=true):Qbq.f e s n u c x=some (e,s,n,u+x,c+1,0):=by
 have hz:=Qtt h.1 h.2.1;have hm:=Qtw (c+1) (by omega) (by omega);obtain⟨f1,f2⟩:=Qtz hf;unfold Qbq.f;rw[Qty h n u c x hu0 hu1 hc0 hc1 hx1,Option.bind_some,hf,if_pos rfl,show wrap64 (u+x)=u+x by unfold wrap64;omega,show wrap64 (c+1)=c+1 by unfold wrap64;omega]
theorem Qub{e s:Int}(h:Good e s)(n:Int)(h0:0≤n)(h1:n<s):Qbf.f e s n=some (Qlf e s n,0):=by
 obtain⟨a,b,c,d⟩:=h;unfold Qbf.f Qbj.f;rw[Qtr ⟨a,b,c,d⟩,Option.bind_some,if_pos rfl,if_neg (by omega),Option.bind_some,if_pos rfl,if_pos ⟨by omega,by omega,by omega,by omega,by omega,by omega⟩]
theorem Quc{e s:Int}(h:Good e s)(n:Int)(h0:0≤n)(h1:n<s):Qbm.f e s n=some (e,s,n,Qtm e s n,0,0):=by
 unfold Qbm.f;rw[Qub h n h0 h1,Option.bind_some,if_pos rfl];rfl
theorem Qud{e s:Int}(h:Good e s)(n:Int)(h1:s≤n):Qbm.f e s n=some (0,0,0,0,0,1):=by
 unfold Qbm.f Qbf.f Qbj.f;rw[Qtr h,Option.bind_some,if_pos rfl,if_pos (by omega),Option.bind_some,if_neg (by decide),Option.bind_some,if_neg (by decide)]
def Que(e s:Int):List Int→List Int→Int→Int→Int→List Int × Int
 | [],out,_,_,_=>(out,0)
 | x :: t,out,n,u,c =>
  if Qtx e (Qtm e s (s-1)) 0 x=false then([],6)
  else if Qtx e u c x=true then Que e s t (out++[n]) n (u+x) (c+1)
  else if n+1<s then Que e s t (out++[n+1]) (n+1) (Qtm e s (n+1)+x) 1
  else([],7)
theorem Quf{e s:Int}(h:Good e s){n x:Int}(h0:0≤n)(h1:n≤s-1)(hf:Qtx e (Qtm e s (s-1)) 0 x=true):Qtx e (Qtm e s n) 0 x=true:=by
 obtain⟨f1,f2⟩:=Qtz hf;have:=Qtp e s h0 h1;simp only[Qtx,decide_eq_true_eq];omega
theorem rd_drop{l:List Int}{i:Nat}(h:i<l.length):l.drop i=rd l (i:Int) :: l.drop (i+1):=by rw[List.drop_eq_getElem_cons h,rd_get h]
theorem Qug{e s:Int}(h:Good e s){u c x:Int}(hc0:0≤c)(hc1:c≤8388608)(hu0:0≤u)(hf:Qtx e u c x=true):0≤u+x∧u+x≤16777216∧0≤c+1∧c+1≤8388608:=by
 have hz:=Qtt h.1 h.2.1;have hm:=Qtw (c+1) (by omega) (by omega);obtain⟨f1,f2⟩:=Qtz hf;omega
theorem Quh{e s:Int}(h:Good e s)(l:List Int)(hl:l.length≤1000000)(hx:∀x∈l,x≤1152921504606846976):∀(d i k:Nat) (out:List Int) (n u c:Int),i+d=l.length→out.length=i→0≤n→n<s→0≤u→u≤16777216→0≤c→c≤8388608→d+1≤k →
  Qbn.l0 k out l (l.length:Int) (i:Int) e s e s n u c e s (s-1) (Qtm e s (s-1)) 0=some (Que e s (l.drop i) out n u c)
 | 0,i,k,out,n,u,c,hi,ho,hn0,hn1,hu0,hu1,hc0,hc1,hk=>by
  obtain⟨k,rfl⟩:∃m,k=m+1:=⟨k-1,by omega⟩;rw[List.drop_of_length_le (by omega)];unfold Qbn.l0;rw[if_neg (by omega)];rfl
 | d + 1,i,k,out,n,u,c,hi,ho,hn0,hn1,hu0,hu1,hc0,hc1,hk=>by
  obtain⟨k,rfl⟩:∃m,k=m+1:=⟨k-1,by omega⟩;have hg:=h;obtain⟨a1,a2,a3,a4⟩:=h;have hil:i<l.length:=by omega
  have hxi:rd l (i:Int)≤1152921504606846976:=by rw[rd_get hil];exact hx _ (List.getElem_mem hil)
  have hH:=Qto e s (s-1);rw[rd_drop hil];unfold Qbn.l0;rw[if_pos (by omega),if_pos (by omega),if_pos (by omega),Qsg i (by omega)];generalize hxx:rd l (i:Int)=x at *;rw[Qty hg (s-1) (Qtm e s (s-1)) 0 x hH.1 (by omega) (by omega) (by omega) hxi,Option.bind_some];unfold Que
  by_cases hf:Qtx e (Qtm e s (s-1)) 0 x=false
  ·rw[hf,if_neg (by decide),if_pos rfl]
  ·have hft:Qtx e (Qtm e s (s-1)) 0 x=true:=by simpa using hf
   rw[if_neg hf,if_pos hft,Qty hg n u c x hu0 hu1 hc0 hc1 hxi,Option.bind_some]
   by_cases hq:Qtx e u c x=true
   ·have haf:=Qug hg hc0 hc1 hu0 hq;rw[if_pos hq,if_pos hq,Qua hg n u c x hu0 hu1 hc0 hc1 hxi hq,Option.bind_some,if_pos (by omega)];exact Quh hg l hl hx d (i+1) k (out++[n]) n (u+x) (c+1) (by omega) (by rw[List.length_append,ho];rfl) hn0 hn1 haf.1 haf.2.1 haf.2.2.1 haf.2.2.2 (by omega)
   ·rw[if_neg hq,if_neg hq,show(n+1)%4294967296=n+1 by omega]
    by_cases hs:n+1<s
    ·have hfn:=Quf hg (show 0≤n+1 by omega) (by omega) hft;have hHn:=Qto e s (n+1);have haf:=Qug hg (Int.le_refl 0) (by omega) hHn.1 hfn;rw[if_pos hs,Quc hg (n+1) (by omega) hs,Option.bind_some,if_pos rfl,Qua hg (n+1) (Qtm e s (n+1)) 0 x hHn.1 (by omega) (by omega) (by omega) hxi hfn,Option.bind_some,if_pos (by omega)];exact Quh hg l hl hx d (i+1) k (out++[n+1]) (n+1) (Qtm e s (n+1)+x) 1 (by omega) (by rw[List.length_append,ho];rfl) (by omega) hs haf.1 haf.2.1 (by omega) (by omega) (by omega)
    ·rw[if_neg hs,Qud hg (n+1) (by omega),Option.bind_some,if_neg (by decide)]
theorem Qui{e s:Int}(h:Good e s)(l:List Int)(k:Nat)(hl:l.length≤1000000)(hx:∀x∈l,x≤1152921504606846976)(hk:l.length+1≤k):Qbn.f k e s l=some (Que e s l [] 0 (Qtm e s 0) 0):=by
 have hg:=h;obtain⟨a1,a2,a3,a4⟩:=h;have hH:=Qto e s 0;unfold Qbn.f;rw[Quc hg 0 (by omega) (by omega),Option.bind_some,if_pos rfl,show(s-1)%4294967296=s-1 by omega,Quc hg (s-1) (by omega) (by omega),Option.bind_some];exact Quh hg l hl hx l.length 0 k [] 0 (Qtm e s 0) 0 (by omega) rfl (by omega) (by omega) hH.1 (by omega) (by omega) (by omega) hk
theorem rdR(l:List Rec)(i:Nat)(h:i<l.length):Qig l (i:Int)=l[i]:=by simp[Qig,List.getElem?_eq_getElem h]
def chkR(r:Rec):Int:=chk r.f0 r.f2 r.f3
def chkL:List Rec→Int
 | []=>0
 | r :: t=>if chkR r=0 then chkL t else chkR r
def ordL:List Rec→Int
 | []=>0
 | [_]=>0
 | a :: b :: t=>if b.f1≤a.f1 then 8 else ordL (b :: t)
def risL(l:List Rec):Int:=if chkL l=0 then ordL l else chkL l
theorem Quj{l:List Rec}(h:chkL l=0):∀r∈l,chkR r=0:=by
 induction l with
 | nil=>intro r hr;cases hr
 | cons a t ih =>
  unfold chkL at h
  by_cases ha:chkR a=0
  ·rw[if_pos ha]at h;intro r hr
   rcases List.mem_cons.1 hr with rfl|hr
   ·exact ha
   ·exact ih h r hr
  ·rw[if_neg ha]at h;exact absurd h ha
theorem check_k(k:Nat)(d:Bool)(s:Int)(key v:ByteArray)(hk:1≤k):Qbt.f k d s key v=some (chk d key v) :=
 Qcu (g:=fun k=>Qbt.f k d s key v) (Qbt.mono d s key v) hk (Qki d s key v)
theorem Quk{l:List Rec}{i:Nat}(h:i+1<l.length):ordL (l.drop i)=if l[i+1].f1≤l[i].f1 then 8 else ordL (l.drop (i+1)):=by
 rw[List.drop_eq_getElem_cons (by omega),List.drop_eq_getElem_cons h];rfl
theorem Qul{l:List Rec}(h:l.length≤1):ordL l=0:=by
 match l,h with
 | [],_=>rfl
 | [_],_=>rfl
theorem Qum(l:List Rec)(hl:l.length≤4611686018427387903):∀(d i k:Nat),i+d=l.length→d+1≤k→Qbv.l1 k l ((i+1:Nat):Int)=some (ordL (l.drop i))
 | 0,i,k,h,hk=>by
  obtain⟨k,rfl⟩:∃m,k=m+1:=⟨k-1,by omega⟩;unfold Qbv.l1;rw[if_neg (by omega),Qul qq_24]
 | d+1,i,k,h,hk=>by
  obtain⟨k,rfl⟩:∃m,k=m+1:=⟨k-1,by omega⟩;unfold Qbv.l1
  by_cases hi:i+1<l.length
  ·have w1:=Qsh (i+1) (by omega) (by omega);rw[Nat.add_sub_cancel]at w1;rw[if_pos (by omega),if_pos (by omega),w1,if_pos (by omega),if_pos (by omega),rdR l (i+1) hi,rdR l i (by omega),Quk hi]
   by_cases ho:l[i+1].f1≤l[i].f1
   ·rw[if_pos ho,if_pos ho]
   ·rw[if_neg ho,if_neg ho,Qsg (i+1) (by omega)];exact Qum l hl d (i+1) k (by omega) (by omega)
  ·rw[if_neg (by omega),Qul qq_24]
theorem Qun(l:List Rec)(hl:l.length≤4611686018427387903):∀(d i k:Nat),i+d=l.length→d+l.length+5≤k→Qbv.l0 k l l (l.length:Int) (i:Int)=some (if chkL (l.drop i)=0 then ordL l else chkL (l.drop i))
 | 0,i,k,h,hk=>by
  obtain⟨k,rfl⟩:∃m,k=m+1:=⟨k-1,by omega⟩;unfold Qbv.l0;rw[if_neg (by omega),List.drop_of_length_le (by omega)];exact Qum l hl l.length 0 k (by omega) (by omega)
 | d+1,i,k,h,hk=>by
  obtain⟨k,rfl⟩:∃m,k=m+1:=⟨k-1,by omega⟩;have hi:i<l.length:=by omega
  unfold Qbv.l0;rw[if_pos (by omega),if_pos (by omega),if_pos (by omega),rdR l i hi,check_k k _ _ _ _ (by omega),Option.bind_some,List.drop_eq_getElem_cons hi];unfold chkL
  by_cases hc:chkR l[i]=0
  ·rw[if_pos hc,if_pos (show chk l[i].f0 l[i].f2 l[i].f3=0 from hc),Qsg i (by omega)];exact Qun l hl d (i+1) k (by omega) (by omega)
  ·rw[if_neg hc,if_neg (show ¬chk l[i].f0 l[i].f2 l[i].f3=0 from hc),if_neg hc];rfl
theorem Quo(l:List Rec)(k:Nat)(hl:l.length≤4611686018427387903)(hk:2*l.length+5≤k):Qbv.f k l=some (risL l) :=
 Qun l hl l.length 0 k (by omega) (by omega)
def Qup(r:Rec):List Int:=Qla (Qkk r.f0 r.f1 r.f2 r.f3)
def fsz(r:Rec):Int:=((Qup r).length:Int)
def Wf(l:List Rec):Prop:=∀r∈l,0≤r.f1∧r.f1<18446744073709551616
theorem Quq(d:Bool)(s:Int)(key v:ByteArray):(Qkk d s key v).length≤key.size+v.size+31:=by
 have h1:=Qjy 9 s;have h2:=Qjy 9 (key.size:Int);have h3:=Qjy 9 (v.size:Int);have h4:=Qcp key;have h5:=Qcp v
 cases d
 ·simp only[Qkk,List.length_append,List.length_cons,List.length_nil,Bool.false_eq_true,if_false];omega
 ·simp only[Qkk,List.length_append,List.length_cons,List.length_nil,if_true];omega
theorem Qur(b:List Int):0<(Qla b).length∧(Qla b).length≤2*b.length+18:=by
 have h:=Qlb _ (b++leb (Qkt 0 b) 8) (Nat.le_refl _);rw[List.length_append,Qiq]at h;unfold Qla;rw[List.length_append];simp;omega
theorem Qus(r:Rec)(hc:chkR r=0):1≤fsz r∧fsz r≤8388608:=by
 have h1:=Qkj hc;have h2:=Quq r.f0 r.f1 r.f2 r.f3;have h3:=Qur (Qkk r.f0 r.f1 r.f2 r.f3);unfold fsz Qup;omega
theorem Qut(r:Rec)(hc:chkR r=0)(h0:0≤r.f1)(h1:r.f1<18446744073709551616):Qbg.f r.f0 r.f1 r.f2 r.f3=some (Qup r,0):=by
 have h2:=Qkj hc;have h3:=Quq r.f0 r.f1 r.f2 r.f3;unfold Qbg.f Qbs.f;rw[if_pos h0,if_pos h1,if_pos (show chk r.f0 r.f2 r.f3=0 from hc),Option.bind_some,if_pos rfl];unfold Qbh.f;rw[if_pos (by dsimp only;omega),Option.bind_some];rfl
def Quu(e s:Int)(l:List Rec):List Int × Int:=Que e s (l.map fsz) [] 0 (Qtm e s 0) 0
theorem Quv{l:List Rec}{i:Nat}(h:i<l.length):(l.take (i+1)).map fsz=(l.take i).map fsz++[fsz l[i]]:=by rw[List.take_succ_eq_append_getElem h,List.map_append];rfl
theorem Quw{e s:Int}(h:Good e s)(l:List Rec)(hl:l.length≤1000000)(hw:Wf l)(hc:chkL l=0):∀(d i k:Nat),i+d=l.length→d+l.length+5≤k →
  Qbl.l0 k ((l.take i).map fsz) l (l.length:Int) (i:Int) e s=some ((Quu e s l).1,l.map fsz,(Quu e s l).2)
 | 0,i,k,hi,hk=>by
  obtain⟨k,rfl⟩:∃m,k=m+1:=⟨k-1,by omega⟩;unfold Qbl.l0;rw[if_neg (by omega),List.take_of_length_le (by omega),Qui h (l.map fsz) k (by rw[List.length_map];exact hl) (fun x hx=>by
   obtain⟨r,hr,rfl⟩:=List.mem_map.1 hx;have:=Qus r (Quj hc r hr);omega) (by rw[List.length_map];omega),Option.bind_some]
  rfl
 | d+1,i,k,hi,hk=>by
  obtain⟨k,rfl⟩:∃m,k=m+1:=⟨k-1,by omega⟩;have hil:i<l.length:=by omega
  have hr:=List.getElem_mem hil;have hln:((l.take i).map fsz).length=i:=by rw[List.length_map,List.length_take];omega
  unfold Qbl.l0;rw[if_pos (by omega),if_pos (by omega),if_pos (by omega),rdR l i hil,Qut l[i] (Quj hc _ hr) (hw _ hr).1 (hw _ hr).2,Option.bind_some,if_pos (by omega),Qsg i (by omega)];have:=Quw h l hl hw hc d (i+1) k (by omega) (by omega);rw[Quv hil]at this;exact this
def Qux(e s:Int)(l:List Rec):List Int × List Int × Int:=if 12≤e∧e≤24∧1≤s∧s≤65536 then if risL l=0 then((Quu e s l).1,l.map fsz,(Quu e s l).2)else([],[],risL l)else([],[],1)
theorem Quy{l:List Rec}(h:risL l=0):chkL l=0:=by
 unfold risL at h
 by_cases hc:chkL l=0
 ·exact hc
 ·rw[if_neg hc]at h;exact h
theorem Quz(e s:Int)(l:List Rec)(k:Nat)(hl:l.length≤1000000)(hw:Wf l)(hk:2*l.length+10≤k):Qbl.f k e s l=some (Qux e s l):=by
 unfold Qbl.f Qux
 by_cases hg:12≤e∧e≤24∧1≤s∧s≤65536
 ·rw[Qtr hg,Option.bind_some,if_pos rfl,if_pos hg,Quo l k (by omega) (by omega),Option.bind_some]
  by_cases hr:risL l=0
  ·rw[if_pos hr,if_pos hr];exact Quw hg l hl hw (Quy hr) l.length 0 k (by omega) (by omega)
  ·rw[if_neg hr,if_neg hr]
 ·rw[Qts hg,Option.bind_some,if_neg (by decide),if_neg hg]
theorem Qva(e s:Int):∀(l out:List Int) (n u c:Int),0≤n→n<s→(∀x∈out,0≤x∧x<s)→(Que e s l out n u c).2=0 →
  (Que e s l out n u c).1.length=out.length+l.length∧∀x∈(Que e s l out n u c).1,0≤x∧x<s
 | [],out,n,u,c,h0,h1,ho,h=>⟨by simp[Que],ho⟩
 | x :: t,out,n,u,c,h0,h1,ho,h=>by
  unfold Que at h ⊢
  by_cases hf:Qtx e (Qtm e s (s-1)) 0 x=false
  ·rw[if_pos hf]at h;cases h
  ·rw [if_neg hf]at h ⊢
   by_cases hq:Qtx e u c x=true
   ·rw[if_pos hq]at h ⊢;have:=Qva e s t (out++[n]) n (u+x) (c+1) h0 h1 (fun y hy=>by
     rcases List.mem_append.1 hy with hy|hy
     ·exact ho y hy
     ·simp at hy;omega) h
    refine⟨?_,this.2⟩;rw[this.1,List.length_append,List.length_cons];simp;omega
   ·rw[if_neg hq]at h ⊢
    by_cases hs:n+1<s
    ·rw[if_pos hs]at h ⊢;have:=Qva e s t (out++[n+1]) (n+1) (Qtm e s (n+1)+x) 1 (by omega) hs (fun y hy=>by
      rcases List.mem_append.1 hy with hy|hy
      ·exact ho y hy
      ·simp at hy;omega) h
     refine⟨?_,this.2⟩;rw[this.1,List.length_append,List.length_cons];simp;omega
    ·rw[if_neg hs]at h;cases h
theorem Qvb{e s:Int}{l:List Rec}(h:(Qux e s l).2.2=0)(hl:l.length≤1000000) :
  Good e s∧risL l=0∧(Quu e s l).2=0∧Qux e s l=((Quu e s l).1,l.map fsz,0)∧(Quu e s l).1.length=l.length∧∀x∈(Quu e s l).1,0≤x∧x<s:=by
 unfold Qux at h ⊢
 by_cases hg:12≤e∧e≤24∧1≤s∧s≤65536
 ·rw[if_pos hg]at h ⊢
  by_cases hr:risL l=0
  ·rw[if_pos hr]at h ⊢;have h2:(Quu e s l).2=0:=h;have:=Qva e s (l.map fsz) [] 0 (Qtm e s 0) 0 (by omega) (by omega) (by simp) h2;refine⟨hg,hr,h2,by rw[h2],?_,this.2⟩;have h3:(Quu e s l).1.length=_:=this.1;rw[h3,List.length_map];simp
  ·rw[if_neg hr]at h;exact absurd h hr
 ·rw[if_neg hg]at h;cases h
def few(l:List Rec)(m b:Int):Bool:=l.all (fun r=>decide ((r.f2.size:Int)≤b) && decide ((r.f3.size:Int)≤b)) && decide ((l.length:Int)≤m)
theorem Qvc(l:List Rec)(m b:Int)(hl:l.length≤4611686018427387903):∀(d i k:Nat),i+d=l.length→d+1≤k→Qau.l0 k l m b l (l.length:Int) (i:Int)=some ((l.drop i).all (fun r=>decide ((r.f2.size:Int)≤b) && decide ((r.f3.size:Int)≤b)) && decide ((l.length:Int)≤m))
 | 0,i,k,h,hk=>by
  obtain⟨k,rfl⟩:∃m,k=m+1:=⟨k-1,by omega⟩;unfold Qau.l0;rw[if_neg (by omega),List.drop_of_length_le (by omega)];simp
 | d+1,i,k,h,hk=>by
  obtain⟨k,rfl⟩:∃m,k=m+1:=⟨k-1,by omega⟩;have hi:i<l.length:=by omega
  unfold Qau.l0;rw[if_pos (by omega),if_pos (by omega),if_pos (by omega),rdR l i hi,List.drop_eq_getElem_cons hi,Qsg i (by omega),Qvc l m b hl d (i+1) k (by omega) (by omega)];rw[List.all_cons];generalize (l.drop (i+1)).all (fun r=>decide ((r.f2.size:Int)≤b) && decide ((r.f3.size:Int)≤b))=q;generalize l[i]=r
  by_cases h1:(r.f2.size:Int) > b
  ·rw[if_pos h1];simp[show ¬((r.f2.size:Int)≤b)by omega]
  ·rw[if_neg h1]
   by_cases h2:(r.f3.size:Int) > b
   ·rw[if_pos h2];simp[show ¬((r.f3.size:Int)≤b)by omega]
   ·rw[if_neg h2];simp[show((r.f2.size:Int)≤b)by omega,show((r.f3.size:Int)≤b)by omega]
theorem few_is(l:List Rec)(m b:Int)(k:Nat)(hl:l.length≤4611686018427387903)(hk:l.length+1≤k):Qau.f k l m b=some (few l m b):=Qvc l m b hl l.length 0 k (by omega) (by omega)
theorem few_len{l:List Rec}{m b:Int}(h:few l m b=true):(l.length:Int)≤m∧∀r∈l,(r.f2.size:Int)≤b∧(r.f3.size:Int)≤b:=by
 unfold few at h;simp only[Bool.and_eq_true,List.all_eq_true,decide_eq_true_eq]at h;exact⟨h.2,fun r hr=>h.1 r hr⟩
theorem Bytes.app{a b:List Int}(h1:Bytes a)(h2:Bytes b):Bytes (a++b):=fun x hx=>(List.mem_append.1 hx).elim (h1 x) (h2 x)
theorem Bytes.left{a b:List Int}(h:Bytes (a++b)):Bytes a:=fun x hx=>h x (List.mem_append_left _ hx)
theorem Bytes.right{a b:List Int}(h:Bytes (a++b)):Bytes b:=fun x hx=>h x (List.mem_append_right _ hx)
theorem Bytes.cons{a:Int}{b:List Int}(h1:0≤a∧a<256)(h2:Bytes b):Bytes (a :: b):=fun x hx=>by
 rcases List.mem_cons.1 hx with rfl|hx
 ·exact h1
 ·exact h2 x hx
theorem Bytes.tail{a:Int}{b:List Int}(h:Bytes (a :: b)):Bytes b:=fun x hx=>h x (List.mem_cons_of_mem _ hx)
theorem Free.app{a b:List Int}(h1:Free a)(h2:Free b):Free (a++b):=fun x hx=>(List.mem_append.1 hx).elim (h1 x) (h2 x)
theorem Free.cons{a:Int}{b:List Int}(h1:a≠0)(h2:Free b):Free (a :: b):=fun x hx=>by
 rcases List.mem_cons.1 hx with rfl|hx
 ·exact h1
 ·exact h2 x hx
theorem Qvd:∀l:List Int,Free l∨∃a b,l=a++0 :: b∧Free a
 | []=>.inl (fun x hx=>by cases hx)
 | c :: l=>by
  by_cases hc:c=0
  ·exact .inr ⟨[],l,by rw[hc];rfl,fun x hx=>by cases hx⟩
  ·rcases Qvd l with h |⟨a,b,rfl,h⟩
   ·exact .inl (h.cons hc)
   ·exact .inr ⟨c :: a,b,rfl,h.cons hc⟩
theorem Qve{b:List Int}(hb:Bytes b) :
  (∃a r,b=a++0 :: r∧Free a∧a.length<254∧Qjq b=((a.length:Int)+1) :: (a++Qjq r)) ∨
  (∃a r,b=a++r∧Free a∧a.length=254∧r≠[]∧Qjq b=255 :: (a++Qjq r)) ∨
  (Free b∧b.length≤254∧Qjq b=((b.length:Int)+1) :: b):=by
 rcases Qvd b with hf |⟨a,r,rfl,hf⟩
 ·by_cases hl:b.length≤254
  ·refine .inr (.inr ⟨hf,hl,?_⟩);rw[Qsd hb hf hl]
   congr 1
   omega
  ·refine .inr (.inl ⟨b.take 254,b.drop 254,(List.take_append_drop 254 b).symm,fun x hx=>hf x (List.mem_of_mem_take hx),by rw[List.length_take];omega,fun h=>by have:=congrArg List.length h;rw[List.length_drop]at this;simp at this;omega,?_⟩);have:=Qse (now:=b.take 254) (rest:=b.drop 254) (hb.take 254) (fun x hx=>hf x (List.mem_of_mem_take hx)) (by rw[List.length_take];omega) (fun h=>by have:=congrArg List.length h;rw[List.length_drop]at this;simp at this;omega);rw[List.take_append_drop]at this;exact this
 ·by_cases hl:a.length<254
  ·refine .inl ⟨a,r,rfl,hf,hl,?_⟩;rw[Qsc hb.left hf hl]
   congr 1
   omega
  ·have h1:a++0 :: r=a.take 254++(a.drop 254++0 :: r):=by rw[← List.append_assoc,List.take_append_drop]
   refine .inr (.inl ⟨a.take 254,a.drop 254++0 :: r,h1,fun x hx=>hf x (List.mem_of_mem_take hx),by rw[List.length_take];omega,by simp,?_⟩);rw[h1];exact Qse (hb.left.take 254) (fun x hx=>hf x (List.mem_of_mem_take hx)) (by rw[List.length_take];omega) (by simp)
theorem Qvf:∀(n:Nat) (b:List Int),b.length≤n→Bytes b→Free (Qjq b)∧Bytes (Qjq b)∧Qjq b≠[]
 | n,b,hn,hb=>by
  rcases Qve hb with⟨a,r,rfl,hf,hl,e⟩ |⟨a,r,rfl,hf,hl,hr,e⟩ |⟨hf,hl,e⟩
  ·rw[List.length_append,List.length_cons]at hn
   match n,hn with
   | n+1,hn =>
    have ih:=Qvf n r (by omega) hb.right.tail;rw[e];exact⟨(hf.app ih.1).cons (by omega),(hb.left.app ih.2.1).cons (by omega),by simp⟩
  ·rw[List.length_append]at hn
   match n,hn with
   | 0,hn=>omega
   | n+1,hn =>
    have ih:=Qvf n r (by omega) hb.right;rw[e];exact⟨(hf.app ih.1).cons (by omega),(hb.left.app ih.2.1).cons (by omega),by simp⟩
  ·rw[e];exact⟨hf.cons (by omega),hb.cons (by omega),by simp⟩
def Qvg:Nat→List Int→List Int
 | 0,_=>[]
 | _,[]=>[]
 | k+1,c :: t=>t.take (c.toNat-1)++(if c<255∧t.drop (c.toNat-1)≠[]then 0 :: Qvg k (t.drop (c.toNat-1))else Qvg k (t.drop (c.toNat-1)))
theorem Qvh(k:Nat):Qvg k []=[]:=by cases k<;>rfl
theorem Qvi:∀(n:Nat) (b:List Int) (k:Nat),b.length≤n→Bytes b→b.length+1≤k→Qvg k (Qjq b)=b
 | n,b,k,hn,hb,hk=>by
  obtain⟨k,rfl⟩:∃m,k=m+1:=⟨k-1,by omega⟩
  rcases Qve hb with⟨a,r,rfl,hf,hl,e⟩ |⟨a,r,rfl,hf,hl,hr,e⟩ |⟨hf,hl,e⟩
  ·rw[List.length_append,List.length_cons]at hn hk
   match n,hn with
   | n+1,hn =>
    have ih:=Qvi n r k (by omega) hb.right.tail (by omega);have hs:=Qvf _ r (Nat.le_refl _) hb.right.tail;have hc:((a.length:Int)+1).toNat-1=a.length:=by omega
    rw[e,Qvg,hc,List.take_left' rfl,List.drop_left' rfl,if_pos ⟨by omega,hs.2.2⟩,ih]
  ·rw[List.length_append]at hn hk
   match n,hn with
   | 0,hn=>omega
   | n+1,hn =>
    have ih:=Qvi n r k (by omega) hb.right (by omega);have hc:(255:Int).toNat-1=a.length:=by omega
    rw[e,Qvg,hc,List.take_left' rfl,List.drop_left' rfl,if_neg (fun h=>by omega),ih]
  ·have hc:((b.length:Int)+1).toNat-1=b.length:=by omega
   rw[e,Qvg,hc,List.take_of_length_le (Nat.le_refl _),List.drop_of_length_le (Nat.le_refl _),if_neg (fun h=>h.2 rfl),Qvh,List.append_nil]
theorem Qvj{a b:List Int}(ha:Bytes a)(hb:Bytes b)(h:Qjq a=Qjq b):a=b:=by
 have h1:=Qvi _ a (a.length+b.length+1) (Nat.le_refl _) ha (by omega);have h2:=Qvi _ b (a.length+b.length+1) (Nat.le_refl _) hb (by omega);exact h1.symm.trans ((congrArg _ h).trans h2)
theorem Qvk:∀ {a b x y:List Int},Free a→Free b→a++0 :: x=b++0 :: y→a=b∧x=y
 | [],[],x,y,_,_,h=>⟨rfl,by simpa using h⟩
 | [],c :: b,x,y,_,hb,h=>by
  have h1:=List.cons.inj h;exact absurd h1.1.symm (hb c (List.mem_cons_self ..))
 | c :: a,[],x,y,ha,_,h=>by
  have h1:=List.cons.inj h;exact absurd h1.1 (ha c (List.mem_cons_self ..))
 | c :: a,d :: b,x,y,ha,hb,h=>by
  have h1:=List.cons.inj h;have ih:=Qvk (fun x hx=>ha x (List.mem_cons_of_mem _ hx)) (fun x hx=>hb x (List.mem_cons_of_mem _ hx)) h1.2;exact⟨by rw[h1.1,ih.1],ih.2⟩
theorem Qvl:∀(n:Nat) (x:Int),Bytes (leb x n)
 | 0,_=>fun y hy=>by cases hy
 | n+1,x=>(Qvl n (x/256)).cons (by omega)
theorem Qvm{a b x y:List Int}(ha:Bytes a)(hb:Bytes b)(h:Qla a++x=Qla b++y):a=b∧x=y:=by
 unfold Qla at h;rw[List.append_assoc,List.append_assoc]at h;have hA:=ha.app (Qvl 8 (Qkt 0 a));have hB:=hb.app (Qvl 8 (Qkt 0 b));have h1:=Qvk (Qvf _ _ (Nat.le_refl _) hA).1 (Qvf _ _ (Nat.le_refl _) hB).1 h;have h2:=Qvj hA hB h1.1;exact⟨(List.append_inj' h2 (by rw[Qiq,Qiq])).1,h1.2⟩
theorem Qvn(a:List Int):(0:Int)∈Qla a:=by unfold Qla;simp
theorem Qvo:∀(n:Nat) {x y:Int} {a b:List Int},0≤x→0≤y→vput n x++a=vput n y++b→x=y∧a=b
 | 0,x,y,a,b,_,_,h=>by
  have h1:=List.cons.inj h;exact⟨h1.1,by simpa using h1.2⟩
 | n+1,x,y,a,b,hx,hy,h=>by
  unfold vput at h
  by_cases h1:x<128
  ·by_cases h2:y<128
   ·rw[if_pos h1,if_pos h2]at h;have h3:=List.cons.inj h;exact⟨h3.1,by simpa using h3.2⟩
   ·rw[if_pos h1,if_neg h2]at h;have h3:=(List.cons.inj h).1;omega
  ·by_cases h2:y<128
   ·rw[if_neg h1,if_pos h2]at h;have h3:=(List.cons.inj h).1;omega
   ·rw[if_neg h1,if_neg h2]at h;have h3:=List.cons.inj h;have ih:=Qvo n (by omega) (by omega) h3.2;exact⟨by omega,ih.2⟩
theorem Qvp:∀(n:Nat) (x:Int),0≤x→x<256*128^n→Bytes (vput n x)
 | 0,x,h0,h1=>by
  unfold vput;intro y hy
  rcases List.mem_singleton.1 hy with rfl
  omega
 | n+1,x,h0,h1=>by
  unfold vput;split
  ·intro y hy
   rcases List.mem_singleton.1 hy with rfl
   omega
  ·refine(Qvp n (x/128) (by omega) ?_).cons (by omega);rw[Int.pow_succ]at h1;omega
theorem Qvq(x:Int)(h0:0≤x)(h1:x<18446744073709551616):Bytes (vput 9 x):=Qvp 9 x h0 (by omega)
theorem Qvr(d:Bool)(s:Int)(key v:ByteArray)(h0:0≤s)(h1:s<18446744073709551616)(hk:key.size≤4611686018427387904)(hv:v.size≤4611686018427387904):Bytes (Qkk d s key v):=by
 unfold Qkk;refine Bytes.app (Bytes.app (Bytes.app ?_ (Qvq s h0 h1)) ((Qvq _ (by omega) (by omega)).app (Qof key))) ?_
 ·intro y hy
  rcases List.mem_singleton.1 hy with rfl
  split<;>omega
 ·split
  ·intro y hy;cases hy
  ·exact(Qvq _ (by omega) (by omega)).app (Qof v)
theorem Qvs{key v:ByteArray}(h:chk true key v=0):v=ByteArray.empty:=by
 unfold chk at h;split at h
 ·cases h
 split at h
 ·cases h
 split at h
 ·cases h
 ·rename_i h3;have h4:v.toList=[]:=by simpa using h3
  have h5:=(Qsf v).1 h4;refine Qrw (List.eq_nil_of_length_eq_zero ?_);rw[Qcp];exact h5
theorem Qvt{d d':Bool}{s s':Int}{key key' v v':ByteArray}(h0:0≤s)(h0':0≤s')(hc:chk d key v=0)(hc':chk d' key' v'=0)(h:Qkk d s key v=Qkk d' s' key' v') :
  d=d'∧s=s'∧key=key'∧v=v':=by
 unfold Qkk at h;have hz:∀(q:Bool) (a b c:List Int),[if q=true then(3:Int)else 2]++a++b++c=(if q=true then(3:Int)else 2) :: (a++(b++c)):=fun q a b c=>by simp
 rw[hz,hz]at h;have h1:=List.cons.inj h;have hd:d=d':=by
  cases d<;>cases d' <;> first|rfl |(have:=h1.1;simp at this)
 subst hd;have h2:=Qvo 9 h0 h0' h1.2;have h3:=h2.2;rw[List.append_assoc,List.append_assoc]at h3;have h4:=Qvo 9 (by omega) (by omega) h3;have hks:(bytesOf key).length=(bytesOf key').length:=by rw[Qcp,Qcp];omega
 have h5:=List.append_inj h4.2 hks;refine⟨rfl,h2.1,Qrw h5.1,?_⟩
 cases d with
 | true=>rw[Qvs hc,Qvs hc']
 | false =>
  have h6:=h5.2;simp only[Bool.false_eq_true,if_false]at h6;exact Qrw (Qvo 9 (by omega) (by omega) h6).2
def okR(r:Rec):Prop:=chkR r=0∧0≤r.f1∧r.f1<18446744073709551616
theorem Qvu{r:Rec}(h:okR r):Bytes (Qkk r.f0 r.f1 r.f2 r.f3):=by
 have:=Qkj h.1;exact Qvr _ _ _ _ h.2.1 h.2.2 (by omega) (by omega)
theorem Qvv{r r':Rec}{x y:List Int}(h:okR r)(h':okR r')(e:Qup r++x=Qup r'++y):r=r'∧x=y:=by
 have h1:=Qvm (Qvu h) (Qvu h') e;have h2:=Qvt h.2.1 h'.2.1 h.1 h'.1 h1.1;refine⟨?_,h1.2⟩
 cases r;cases r'
 obtain⟨a,b,c,d⟩:=h2;simp only at a b c d;rw[a,b,c,d]
def Qvw(T:List Int):Prop:=∀r x,okR r→T≠Qup r++x
theorem Qvx:∀ {g g':List Rec} {T T':List Int},(∀r∈g,okR r)→(∀r∈g',okR r)→Qvw T→Qvw T'→g.flatMap Qup++T=g'.flatMap Qup++T'→g=g'∧T=T'
 | [],[],T,T',_,_,_,_,e=>⟨rfl,by simpa using e⟩
 | [],r :: g',T,T',_,h',hT,_,e=>by
  rw[List.flatMap_nil,List.nil_append,List.flatMap_cons,List.append_assoc]at e;exact absurd e (hT r _ (h' r (List.mem_cons_self ..)))
 | r :: g,[],T,T',h,_,_,hT',e=>by
  rw[List.flatMap_nil,List.nil_append,List.flatMap_cons,List.append_assoc]at e;exact absurd e.symm (hT' r _ (h r (List.mem_cons_self ..)))
 | r :: g,r' :: g',T,T',h,h',hT,hT',e=>by
  rw[List.flatMap_cons,List.append_assoc,List.flatMap_cons,List.append_assoc]at e;have h1:=Qvv (h r (List.mem_cons_self ..)) (h' r' (List.mem_cons_self ..)) e;have ih:=Qvx (fun x hx=>h x (List.mem_cons_of_mem _ hx)) (fun x hx=>h' x (List.mem_cons_of_mem _ hx)) hT hT' h1.2;exact⟨by rw[h1.1,ih.1],ih.2⟩
theorem Qvy(m:Nat):Qvw (List.replicate m 255):=by
 intro r x hr e;have h1:(0:Int)∈List.replicate m (255:Int):=by rw[e];exact List.mem_append_left _ (Qvn _)
 have:=List.eq_of_mem_replicate h1;omega
theorem Qvz(x:Ent):Bytes (ent x):=(Qvl 8 _).app (Qvl 4 _)
theorem Qwa{α:Type}(f:α→List Int)(hf:∀x,Bytes (f x)):∀l:List α,Bytes (l.flatMap f)
 | []=>fun y hy=>by cases hy
 | x :: t=>by rw[List.flatMap_cons];exact(hf x).app (Qwa f hf t)
theorem Qwb(u:Int)(l:List Ent)(p:List Int):Qvw (Qnp u l++p):=by
 intro r x hr e;unfold Qnp Qup at e;have hb:Bytes ([4]++leb (l.length:Int) 4++leb u 4++l.flatMap ent++(Qmk l).flatMap (fun x=>leb x 8)):=by
  refine Bytes.app (Bytes.app (Bytes.app (Bytes.app ?_ (Qvl 4 _)) (Qvl 4 _)) (Qwa _ Qvz l)) (Qwa _ (fun x=>Qvl 8 x) _);intro y hy
  rcases List.mem_singleton.1 hy with rfl
  omega
 have h1:=(Qvm hb (Qvu hr) e).1;unfold Qkk at h1;simp only[List.cons_append,List.nil_append,List.append_assoc]at h1;have h2:=(List.cons.inj h1).1;split at h2<;>omega
end Go.Proofs.YteaocbonofboeaaGreat.CodecP
end
