/- Merged texts. -/
import Derived.Test.YteaocbonofboeaaGreatME22
import Derived.Test.YteaocbonofboeaaGreatME13
import Derived.Test.YteaocbonofboeaaGreatME06
import Derived.Test.YteaocbonofboeaaGreatME09
import Derived.Test.YteaocbonofboeaaGreatME11
import Derived.Test.YteaocbonofboeaaGreatME14
import Derived.Test.YteaocbonofboeaaGreatME15
set_option linter.unusedVariables false
set_option linter.unusedSimpArgs false
set_option maxHeartbeats 8000000
set_option maxRecDepth 100000
section
namespace Go.Proofs.YteaocbonofboeaaGreat.CodecP
open Go.RowKit Go.Proofs.YteaocbonofboeaaGreat.C Go.Proofs.YteaocbonofboeaaGreatW.PrintWords Go.Proofs.YteaocbonofboeaaGreatW.PrintLast Go.Proofs.YteaocbonofboeaaGreatW.PrintMore
theorem num_key(l:List Int)(hb:Bytes l)(c:l.length≤8):Qcq.l0 (l.length+1) l 0 (l.length:Int) 0=some (leI l):=by
 obtain⟨n,hl'⟩:∃n,n=l.length:=⟨_,rfl⟩;have hl:n≤l.length:=by omega
 have hn:n≤8:=by omega
 have key:∀(d i:Nat),i+d=n→Qcq.l0 (d+1) l (leI (l.take i)) (n:Int) (i:Int)=some (leI (l.take n)):=by
  intro d
  induction d with
  | zero =>
   intro i h;unfold Qcq.l0;obtain rfl:i=n:=by omega
   rw[if_neg (by omega)]
  | succ d ih =>
   intro i h;unfold Qcq.l0;have hw:wrap64 (8*(i:Int))=((8*i:Nat):Int):=by unfold wrap64;omega
   rw[if_pos (by omega),if_pos (by omega),if_pos (by omega),hw,if_pos (by omega),show wrap64 ((i:Int)+1)=((i+1:Nat):Int)by unfold wrap64;omega];have hr:=Qqs (hb.take i);have hlen:(l.take i).length=i:=by rw[List.length_take];omega
   rw[hlen]at hr;have hd:=rd_range hb (show i<l.length by omega);have e:Go.bits .or .u64 (leI (l.take i)) (shl .u64 (IntKind.u64.wrap (rd l (i:Int))) ((8*i:Nat):Int))=leI (l.take (i+1)):=by
    rw[Qqu (by omega),Qqt,hlen,IntWalk.u64_in _ (by omega)];generalize rd l (i:Int)=b at *;generalize leI (l.take i)=a at *;obtain⟨a,rfl⟩:=Int.eq_ofNat_of_zero_le hr.1;obtain⟨b,rfl⟩:=Int.eq_ofNat_of_zero_le hd.1;have hp:(256:Nat)^i=2^(8*i):=by rw[Nat.pow_mul]
    have ha:a<2^(8*i):=by
     have:=hr.2;rw[← hp]
     exact_mod_cast this
    have hbig:b*2^(8*i)<2^64:=by
     have h1:b*2^(8*i)<2^8*2^(8*i):=Nat.mul_lt_mul_of_pos_right (by omega) (Nat.two_pow_pos _);have h2:(2:Nat)^8*2^(8*i)≤2^64:=by rw[← Nat.pow_add];exact Nat.pow_le_pow_right (by omega) (by omega)
     omega
    have ha2:a<2^64:=by
     have h2:(2:Nat)^(8*i)≤2^64:=Nat.pow_le_pow_right (by omega) (by omega);omega
    unfold shl;rw[show min ((8*i:Nat):Int).toNat IntKind.u64.bits=8*i by simp[IntKind.bits];omega,IntKind.wrap_u64];have e1:((b:Int)*2^(8*i))%18446744073709551616=((2^(8*i)*b:Nat):Int):=by
     have e2:((b:Int)*2^(8*i))=((b*2^(8*i):Nat):Int):=by push_cast;rfl
     rw[e2,Nat.mul_comm (2^(8*i)) b];omega
    rw[e1,bits_or_u64_nat _ _ (by omega) (by rw[Nat.mul_comm];omega),Nat.or_comm,← Nat.two_pow_add_eq_or_of_lt ha];have e3:((256:Int)^i*(b:Int))=((256^i*b:Nat):Int):=by push_cast;rfl
    rw[e3,hp];omega
   rw[e];exact ih (i+1) (by omega)
 have h:=key n 0 (by omega);rw[show leI (l.take 0)=0 from rfl,show((0:Nat):Int)=0 from rfl,hl',List.take_length]at h;exact h
theorem byte_key(b:Int)(hb:0≤b∧b<256):∃k x,Qcq.l0 k [b] 0 (([b]:List Int).length:Int) 0=some x∧IntKind.u8.wrap x=b:=by
 refine⟨_,_,num_key [b] (fun y hy=>by rw[List.mem_singleton.1 hy];exact hb) (by simp),?_⟩;simp only[leI];rw[show b+256*0=b by omega];exact IntWalk.u8_in _ (by omega)
theorem Qto(a b:ByteArray):bytesOf (a++b)=bytesOf a++bytesOf b:=by
 unfold bytesOf;rw[← List.map_append]
 congr 1
theorem Qtp{x:Int}(h:0≤x∧x<256):((UInt8.ofNat x.toNat).toNat:Int)=x:=by
 obtain⟨n,rfl⟩:=Int.eq_ofNat_of_zero_le h.1;simp[UInt8.toNat_ofNat'];omega
theorem bytesOf_nums{l:List Int}(h:Bytes l):bytesOf (strOfNums l)=l:=by
 unfold bytesOf;rw[strOfNums_data,List.map_map]
 conv=>rhs;rw[← List.map_id l]
 apply List.map_congr_left;intro x hx;exact Qtp (h x hx)
theorem Qtq{a b:ByteArray}(h:bytesOf a=bytesOf b):a=b:=by
 have h1:a.data.toList=b.data.toList:=by
  unfold bytesOf at h;exact List.map_inj_right (f:=fun b:UInt8=>(b.toNat:Int)) (fun x y hxy=>UInt8.toNat_inj.1 (Int.ofNat.inj hxy)) |>.1 h
 have h2:a.data=b.data:=Array.toList_inj.1 h1
 cases a;cases b;simp_all
theorem Qtr(s:ByteArray):strOfNums (bytesOf s)=s:=Qtq (bytesOf_nums (Qqr s))
def Free(l:List Int):Prop:=∀x∈l,x≠0
theorem Qts{c:Int}(h:0≤c∧c<256):(UInt8.ofNat c.toNat == (0:Int).toNat.toUInt8)=decide (c=0):=by
 rw[Bool.eq_iff_iff,beq_iff_eq,decide_eq_true_iff]
 constructor
 ·intro e;have h1:=Qtp h;rw[e]at h1
  simpa using h1.symm
 ·rintro rfl;rfl
theorem Qtt:∀ {l:List Int},Bytes l→Free l→ixOf l 0=-1
 | [],_,_=>rfl
 | c :: l,hb,hf=>by
  have h1:=hb c (List.mem_cons_self ..);have h2:=hf c (List.mem_cons_self ..);have ih:=Qtt (l:=l) (fun x hx=>hb x (List.mem_cons_of_mem _ hx)) (fun x hx=>hf x (List.mem_cons_of_mem _ hx));unfold ixOf at ih ⊢;simp only[Lib.bytesOf,List.map_cons,Lib.indexByte,Qts h1]at ih ⊢;rw[ih];simp[h2]
theorem Qtu:∀ {a b:List Int},Bytes a→Free a→ixOf (a++0 :: b) 0=a.length
 | [],b,_,_=>by
  unfold ixOf;simp[Lib.bytesOf,Lib.indexByte]
 | c :: a,b,hb,hf=>by
  have h1:=hb c (List.mem_cons_self ..);have h2:=hf c (List.mem_cons_self ..);have ih:=Qtu (a:=a) (b:=b) (fun x hx=>hb x (List.mem_cons_of_mem _ hx)) (fun x hx=>hf x (List.mem_cons_of_mem _ hx));unfold ixOf at ih ⊢;simp only[Lib.bytesOf,List.cons_append,List.map_cons,Lib.indexByte,Qts h1]at ih ⊢;rw[ih];have:((a.length:Int) == -1)=false:=by rw[beq_eq_false_iff_ne];omega
  simp[h2,this]
theorem Qtv{a:List Int}(hb:Bytes a)(hf:Free a)(n:Nat):ixOf (a.take n) 0=-1:=Qtt (hb.take n) (fun x hx=>hf x (List.mem_of_mem_take hx))
theorem Qtw{now rest:List Int}(hb:Bytes now)(hf:Free now)(hl:now.length<254):Qks (now++0 :: rest)=(((now.length:Int)+1)%256) :: (now++Qks rest):=by
 have e:ixOf ((now++0 :: rest).take 254) 0=(now.length:Int):=by
  obtain⟨m,hm⟩:∃m,254-now.length=m+1:=⟨253-now.length,by omega⟩;rw[List.take_append,List.take_of_length_le (by omega),hm,List.take_succ_cons];exact Qtu hb hf
 rw[Qkv e,List.take_left',List.drop_append,List.drop_of_length_le (by omega)]
 ·simp
 ·rfl
theorem Qtx{now:List Int}(hb:Bytes now)(hf:Free now)(hl:now.length≤254):Qks now=(((now.length:Int)+1)%256) :: now :=
 Qkx (by rw[Qtv hb hf];omega) (by omega)
theorem Qty{now rest:List Int}(hb:Bytes now)(hf:Free now)(hl:now.length=254)(hr:rest≠[]):Qks (now++rest)=255 :: (now++Qks rest):=by
 have hr':0<rest.length:=List.length_pos_iff.2 hr;have e1:(now++rest).take 254=now:=by rw[← hl];exact List.take_left' rfl
 have e2:(now++rest).drop 254=rest:=by rw[← hl];exact List.drop_left' rfl
 rw[Qkw (by rw[e1,Qtt hb hf];omega) (by rw[List.length_append];omega),e1,e2]
theorem Qtz(s:ByteArray)(i:Nat):bt s (i:Int)=rd (bytesOf s) (i:Int):=(Qdf s (i:Int)).symm
theorem ext_one(s:ByteArray)(i:Nat)(h:i<s.size):bytesOf (s.extract i (i+1))=[bt s (i:Int)]:=by
 rw[Qqv,Qtz,rd_get (by rw[Qde];exact h),Nat.add_sub_cancel_left,List.drop_eq_getElem_cons (by rw[Qde];exact h)];rfl
theorem Qua(s:ByteArray):s.toList=([]:List UInt8)↔s.size=0:=by
 constructor
 ·intro h;have h1:s.toList.length=s.size:=by rw[Lib.toList_data,Qdd]
  rw[h]at h1
  simpa using h1.symm
 ·intro h;have h1:s.toList.length=s.size:=by rw[Lib.toList_data,Qdd]
  exact List.eq_nil_of_length_eq_zero (by omega)
theorem Qub(i:Nat)(h:i<4611686018427387904):wrap64 ((i:Int)+1)=((i+1:Nat):Int):=by unfold wrap64;omega
theorem Quc(i:Nat)(h0:0<i)(h:i<4611686018427387904):wrap64 ((i:Int)-1)=((i-1:Nat):Int):=by unfold wrap64;omega
def Qud(L now rest:List Int)(i:Nat):List Int:=if now=[]∧rest=[]∧0<i∧rd L ((i:Int)-1)≠0 then []else Qks (now++rest)
theorem Que(k:Nat)(all out now:ByteArray)(i:Nat)(hs:out.size+now.size+1≤9223372036854775807)(hn:now.size<254)(hi:i<4611686018427387904) :
  ∃o',bytesOf o'=bytesOf out++((((bytesOf now).length:Int)+1)%256) :: bytesOf now∧Qbk.j1 (k+1) all out now (i:Int) false=Qbk.l0 k all o' (⟨#[]⟩:ByteArray) ((i+1:Nat):Int):=by
 have hw:wrap64 ((now.size:Int)+1)%256=(now.size:Int)+1:=by unfold wrap64;omega
 have hsz:(strOfNums [(now.size:Int)+1]).size=1:=by rw[strOfNums_size];rfl
 refine⟨(out++strOfNums [(now.size:Int)+1])++now,?_,?_⟩
 ·rw[Qto,Qto,bytesOf_nums (by intro x hx;simp at hx;omega),Qde,List.append_assoc];rw[show((now.size:Int)+1)%256=(now.size:Int)+1 by omega];rfl
 ·unfold Qbk.j1;rw[if_neg (by decide),Option.bind_some,hw,if_pos (by omega),if_pos (by rw[ByteArray.size_append];omega),show wrap64 ((i:Int)+1)=((i+1:Nat):Int)by unfold wrap64;omega]
theorem Quf(s:ByteArray)(hs:s.size≤1152921504606846976):∀(d i k:Nat) (out now:ByteArray),i+d=s.size→Free (bytesOf now)→now.size<254→out.size+now.size≤4*i→2*d+5≤k →
  ∃o',Qbk.l0 k (s++(⟨#[0]⟩:ByteArray)) out now (i:Int)=some o'∧bytesOf o'=bytesOf out++Qud (bytesOf s) (bytesOf now) ((bytesOf s).drop i) i
 | 0, i,k,out,now,hi,hf,hn,ho,hk=>by
  obtain⟨k,rfl⟩:∃m,k=m+3:=⟨k-3,by omega⟩;have hall:(s++(⟨#[0]⟩:ByteArray)).size=s.size+1:=by rw[ByteArray.size_append];rfl
  have hbA:bytesOf (s++(⟨#[0]⟩:ByteArray))=bytesOf s++[0]:=by rw[Qto];rfl
  have hlen:=Qde s;have hbt:bt (s++(⟨#[0]⟩:ByteArray)) (i:Int)=0:=by
   rw[Qtz,rd_get (by rw[hbA,List.length_append,hlen];simp;omega)];simp only[hbA];rw[List.getElem_append_right (by omega)];simp
  have hd:(bytesOf s).drop i=[]:=List.drop_of_length_le (by omega);have hwl:wrap64 (((s++(⟨#[0]⟩:ByteArray)).size:Int)-1)=(i:Int):=by rw[hall];unfold wrap64;omega
  have hnl:=Qde now;have hend:∀(o:ByteArray) (m:Nat),Qbk.l0 (m+1) (s++(⟨#[0]⟩:ByteArray)) o (⟨#[]⟩:ByteArray) ((i+1:Nat):Int)=some o:=by
   intro o m;unfold Qbk.l0;rw[if_neg (by rw[hall];omega)]
  obtain⟨oj,hj1,hj2⟩:=Que (k+1) (s++(⟨#[0]⟩:ByteArray)) out now i (by omega) hn (by omega);have hstf:Qks (bytesOf now++[])=((((bytesOf now).length:Int)+1)%256) :: bytesOf now:=by
   rw[List.append_nil];exact Qtx (Qqr now) hf (by omega)
  unfold Qbk.l0;rw[if_pos (by rw[hall];omega),if_pos (by omega),hbt,if_pos rfl,hwl,if_pos rfl]
  by_cases hne:now.size=0
  ·rw [if_pos ((Qua now).2 hne)];have b:bytesOf now=[]:=List.eq_nil_of_length_eq_zero (by omega)
   by_cases h0:0<i
   ·have hw1:wrap64 ((i:Int)-1)=((i-1:Nat):Int):=by unfold wrap64;omega
    rw[if_pos (by omega),hw1,if_pos (by omega),if_pos (by rw[hall];omega)];have hb1:bt (s++(⟨#[0]⟩:ByteArray)) ((i-1:Nat):Int)=rd (bytesOf s) ((i:Int)-1):=by
     rw[show(i:Int)-1=((i-1:Nat):Int)by omega,Qtz,rd_get (by rw[hbA,List.length_append,hlen];simp;omega),rd_get (by omega)];simp only[hbA];rw[List.getElem_append_left (by omega)]
    rw[hb1]
    by_cases hz:rd (bytesOf s) ((i:Int)-1)=0
    ·rw[hz,show((0:Int) != 0)=false from rfl,hj2];refine⟨oj,hend _ _,?_⟩;rw[hj1,hd];unfold Qud;rw[if_neg (by intro h;exact h.2.2.2 hz),hstf]
    ·refine⟨out,?_,?_⟩
     ·unfold Qbk.j1;rw[if_pos (by simpa using hz)]
     ·rw[hd];unfold Qud;rw[if_pos ⟨b,rfl,h0,hz⟩,List.append_nil]
   ·rw[if_neg (by omega),hj2];refine⟨oj,hend _ _,?_⟩;rw[hj1,hd];unfold Qud;rw[if_neg (by intro h;exact h0 h.2.2.1),hstf]
  ·rw[if_neg (by intro h;exact hne ((Qua now).1 h)),hj2];refine⟨oj,hend _ _,?_⟩;rw[hj1,hd];unfold Qud;rw[if_neg (by intro h;have:=h.1;rw[this]at hnl;exact hne hnl.symm),hstf]
 | d + 1,i,k,out,now,hi,hf,hn,ho,hk=>by
  obtain⟨k,rfl⟩:∃m,k=m+2:=⟨k-2,by omega⟩;have hall:(s++(⟨#[0]⟩:ByteArray)).size=s.size+1:=by rw[ByteArray.size_append];rfl
  have hbA:bytesOf (s++(⟨#[0]⟩:ByteArray))=bytesOf s++[0]:=by rw[Qto];rfl
  have hlen:=Qde s;have hil:i<(bytesOf s).length:=by omega
  obtain⟨c,hc⟩:∃c,c=(bytesOf s)[i]:=⟨_,rfl⟩;have hbt:bt (s++(⟨#[0]⟩:ByteArray)) (i:Int)=c:=by
   rw[Qtz,rd_get (by rw[hbA,List.length_append];omega),hc];simp only[hbA];rw[List.getElem_append_left hil]
  have hcb:0≤c∧c<256:=by rw[hc];exact Qqr s _ (List.getElem_mem hil)
  have hdrop:(bytesOf s).drop i=c :: (bytesOf s).drop (i+1):=by rw[hc];exact List.drop_eq_getElem_cons hil
  have hrd:rd (bytesOf s) (((i+1:Nat):Int)-1)=c:=by rw[show(((i+1:Nat):Int)-1)=(i:Int)by omega,rd_get hil,hc]
  have hnl:=Qde now;have hnot:¬(i:Int)=wrap64 (((s++(⟨#[0]⟩:ByteArray)).size:Int)-1):=by rw[hall];unfold wrap64;omega
  have hnil:bytesOf (⟨#[]⟩:ByteArray)=[]:=rfl;rw[hdrop];unfold Qbk.l0;rw[if_pos (by rw[hall];omega),if_pos (by omega),hbt]
  by_cases hz:c=0
  ·subst hz;rw[if_pos rfl,if_neg hnot];obtain⟨oj,hj1,hj2⟩:=Que k (s++(⟨#[0]⟩:ByteArray)) out now i (by omega) hn (by omega);have hjs:oj.size=out.size+now.size+1:=by
    have:=congrArg List.length hj1;rw[Qde,List.length_append,List.length_cons,Qde,Qde]at this;omega
   rw[hj2];obtain⟨o',h1,h2⟩:=Quf s hs d (i+1) k oj (⟨#[]⟩:ByteArray) (by omega) (by intro x hx;rw[hnil]at hx;cases hx) (by decide) (by rw[hjs];show _+0≤_;omega) (by omega);refine⟨o',h1,?_⟩;rw[h2,hj1,hnil];unfold Qud;rw[if_neg (by intro h;exact h.2.2.2 hrd),if_neg (by intro h;cases h.2.1),List.nil_append,Qtw (Qqr now) hf (by omega)];simp
  ·rw[if_neg hz,Qub i (by omega),if_pos (by omega),if_pos (by rw[hall];omega)];obtain⟨x1,a⟩:∃x1,x1=(s++(⟨#[0]⟩:ByteArray)).extract (i:Int).toNat ((i+1:Nat):Int).toNat:=⟨_,rfl⟩;have hxb:bytesOf x1=[c]:=by
    rw[a,Int.toNat_natCast,Int.toNat_natCast,ext_one _ _ (by rw[hall];omega),hbt]
   have hxs:x1.size=1:=by rw[Qqw,hxb];rfl
   rw[← a,if_pos (by omega)];have hnb:bytesOf (now++x1)=bytesOf now++[c]:=by rw[Qto,hxb]
   have hns:(now++x1).size=now.size+1:=by rw[ByteArray.size_append,hxs]
   have hfree:Free (bytesOf now++[c]):=by
    intro x hx
    rcases List.mem_append.1 hx with h|h
    ·exact hf x h
    ·simp at h;rw[h];exact hz
   by_cases hfull:((now++x1).size:Int)=254
   ·rw[if_pos hfull,if_pos (by omega)];have hos:(out++(⟨#[255]⟩:ByteArray)).size=out.size+1:=by rw[ByteArray.size_append];rfl
    rw[if_pos (by rw[hos];omega)];obtain⟨o',h1,h2⟩:=Quf s hs d (i+1) (k+1) ((out++(⟨#[255]⟩:ByteArray))++(now++x1)) (⟨#[]⟩:ByteArray) (by omega) (by intro x hx;rw[hnil]at hx;cases hx) (by decide) (by rw[ByteArray.size_append,hos];show _+0≤_;omega) (by omega);refine⟨o',h1,?_⟩;rw[h2,Qto,Qto,hnb,hnil,show bytesOf (⟨#[255]⟩:ByteArray)=[255] from rfl];have hl254:(bytesOf now++[c]).length=254:=by rw[List.length_append,hnl];simp;omega
    have hbb:Bytes (bytesOf now++[c]):=by rw[← hnb];exact Qqr _
    unfold Qud
    by_cases hr:(bytesOf s).drop (i+1)=[]
    ·rw[if_pos ⟨rfl,hr,by omega,by rw[hrd];exact hz⟩,if_neg (by intro h;cases h.2.1),hr,Qtx hbb hfree (by omega),hl254];simp
    ·rw[if_neg (by intro h;exact hr h.2.1),if_neg (by intro h;cases h.2.1),List.nil_append];have:=Qty hbb hfree hl254 hr;rw[List.append_assoc]at this;rw[show bytesOf now++c :: (bytesOf s).drop (i+1)=bytesOf now++([c]++(bytesOf s).drop (i+1)) from rfl,this];simp
   ·rw[if_neg hfull];obtain⟨o',h1,h2⟩:=Quf s hs d (i+1) (k+1) out (now++x1) (by omega) (by rw[hnb];exact hfree) (by omega) (by omega) (by omega);refine⟨o',h1,?_⟩;rw[h2,hnb];unfold Qud;rw[if_neg (by intro h;have:=h.1;simp at this),if_neg (by intro h;cases h.2.1)];simp
theorem Qug(s:ByteArray)(k:Nat)(hs:s.size≤1152921504606846976)(hk:2*s.size+5≤k):∃o',Qbk.f k s=some o'∧bytesOf o'=Qks (bytesOf s):=by
 have hnil:bytesOf (⟨#[]⟩:ByteArray)=[]:=rfl;obtain⟨o',h1,h2⟩:=Quf s hs s.size 0 k (⟨#[]⟩:ByteArray) (⟨#[]⟩:ByteArray) (by omega) (by intro x hx;rw[hnil]at hx;cases hx) (by decide) (by decide) hk;refine⟨o',?_,?_⟩
 ·unfold Qbk.f;rw[if_pos (by omega)];exact h1
 ·rw[h2,hnil];unfold Qud;rw[if_neg (by intro h;exact absurd h.2.2.1 (by omega))];simp
theorem Quh:∀(n k:Nat) (x:Int),n≤9→0≤x→x<128^(n+1)→x<18446744073709551616→n+1≤k→∃t,Qbd.f k x=some t∧bytesOf t=vput n x
 | 0,k,x,hn,h0,h1,h2,hk=>by
  obtain⟨k,rfl⟩:∃m,k=m+1:=⟨k-1,by omega⟩;have hx:x<128:=by simpa using h1
  refine⟨strOfNums [x%256],?_,?_⟩
  ·unfold Qbd.f;rw[if_pos hx]
  ·rw[bytesOf_nums (by intro y hy;simp at hy;omega)];simp[vput];omega
 | n+1,k,x,hn,h0,h1,h2,hk=>by
  obtain⟨k,rfl⟩:∃m,k=m+1:=⟨k-1,by omega⟩
  by_cases hx:x<128
  ·refine⟨strOfNums [x%256],?_,?_⟩
   ·unfold Qbd.f;rw[if_pos hx]
   ·rw[bytesOf_nums (by intro y hy;simp at hy;omega)];simp[vput,hx];omega
  ·have hq:x/128<128^(n+1):=by
    rw[Int.pow_succ]at h1;exact Int.ediv_lt_of_lt_mul (by omega) h1
   obtain⟨t,ht,hb⟩:=Quh n k (x/128) (by omega) (by omega) hq (by omega) (by omega);have e1:IntKind.u64.wrap (Int.tdiv x 128)=x/128:=by rw[Int.tdiv_eq_ediv_of_nonneg h0,IntWalk.u64_in _ (by omega)]
   have e2:IntKind.u64.wrap (128+(Int.tmod x 128))%256=x%128+128:=by rw[Int.tmod_eq_emod_of_nonneg h0,IntWalk.u64_in _ (by omega)];omega
   have hl:=Qla n (x/128);have hts:t.size≤n+1:=by rw[Qqw,hb];exact hl
   have hy:(strOfNums [x%128+128]).size=1:=by rw[strOfNums_size];rfl
   refine⟨strOfNums [x%128+128]++t,?_,?_⟩
   ·unfold Qbd.f;rw[if_neg hx,Option.bind_some,e1,e2,ht,Option.bind_some,hy];rw[if_pos (by omega)]
   ·rw[Qto,bytesOf_nums (by intro y hy';simp at hy';omega),hb];simp[vput,hx]
theorem num2(k:Nat)(x:Int)(h0:0≤x)(h1:x<18446744073709551616)(hk:10≤k):∃t,Qbd.f k x=some t∧bytesOf t=vput 9 x :=
 Quh 9 k x (by omega) h0 (by omega) h1 hk
theorem Qui:∀(d k:Nat) (n i:Nat) (x:Int) (out:ByteArray),i+d=n→n≤1000→0≤x→x<18446744073709551616→out.size≤i→d+1≤k →
  ∃t,Qbb.l0 k x out (n:Int) (i:Int)=some t∧bytesOf t=bytesOf out++leb x d
 | 0,k,n,i,x,out,h,hn,h0,h1,ho,hk=>by
  obtain⟨k,rfl⟩:∃m,k=m+1:=⟨k-1,by omega⟩;refine⟨out,?_,by simp[leb]⟩;unfold Qbb.l0;rw[if_neg (by omega)]
 | d+1,k,n,i,x,out,h,hn,h0,h1,ho,hk=>by
  obtain⟨k,rfl⟩:∃m,k=m+1:=⟨k-1,by omega⟩;have e1:(Int.tmod x 256)%256=x%256:=by rw[Int.tmod_eq_emod_of_nonneg h0];omega
  have e2:IntKind.u64.wrap (Int.tdiv x 256)=x/256:=by rw[Int.tdiv_eq_ediv_of_nonneg h0,IntWalk.u64_in _ (by omega)]
  have hy:(strOfNums [x%256]).size=1:=by rw[strOfNums_size];rfl
  obtain⟨t,ht,hb⟩:=Qui d k n (i+1) (x/256) (out++strOfNums [x%256]) (by omega) hn (by omega) (by omega) (by rw[ByteArray.size_append,hy];omega) (by omega);refine⟨t,?_,?_⟩
  ·unfold Qbb.l0;rw[if_pos (by omega),Option.bind_some,e1,e2,hy,if_pos (by omega),Qub i (by omega)];exact ht
  ·rw[hb,Qto,bytesOf_nums (by intro y hy';simp at hy';omega)];simp[leb]
theorem num1(k n:Nat)(x:Int)(hn:n≤1000)(h0:0≤x)(h1:x<18446744073709551616)(hk:n+1≤k):∃t,Qbb.f k x (n:Int)=some t∧bytesOf t=leb x n:=by
 obtain⟨t,ht,hb⟩:=Qui n k n 0 x (⟨#[]⟩:ByteArray) (by omega) hn h0 h1 (by decide) hk;exact⟨t,ht,by rw[hb];rfl⟩
theorem text2(k:Nat)(s:ByteArray)(hs:s.size≤70368744177664)(hk:10≤k):∃t,Qbe.f k s=some t∧bytesOf t=vput 9 s.size++bytesOf s∧t.size≤s.size+10:=by
 obtain⟨t,ht,hb⟩:=num2 k (s.size:Int) (by omega) (by omega) hk;have hl:=Qla 9 (s.size:Int);have hts:t.size≤10:=by rw[Qqw,hb];omega
 refine⟨t++s,?_,by rw[Qto,hb],by rw[ByteArray.size_append];omega⟩;unfold Qbe.f;rw[if_pos hs,ht,Option.bind_some,if_pos (by omega)]
theorem Quj(k:Nat)(d:Bool)(s:Int)(key v:ByteArray)(hs0:0≤s)(hs1:s<18446744073709551616)(hk1:key.size≤70368744177664)(hv1:v.size≤70368744177664)(hk:10≤k) :
  ∃t,Qbl.f k d s key v=some t∧bytesOf t=Qlm d s key v∧t.size≤key.size+v.size+31:=by
 obtain⟨t1,h1,b1⟩:=num2 k s hs0 hs1 hk;obtain⟨t2,h2,b2,z2⟩:=text2 k key hk1 hk;obtain⟨t3,h3,b3,z3⟩:=text2 k v hv1 hk;have hl:=Qla 9 s;have hz1:t1.size≤10:=by rw[Qqw,b1];omega
 cases d with
 | true =>
  have hc:(⟨#[3]⟩:ByteArray).size=1:=rfl;refine⟨((⟨#[3]⟩:ByteArray)++t1)++t2,?_,?_,?_⟩
  ·unfold Qbl.f;rw[if_pos rfl,h1,Option.bind_some,if_pos (by omega),h2,Option.bind_some,if_pos (by rw[ByteArray.size_append,hc];omega)]
  ·rw[Qto,Qto,b1,b2,show bytesOf (⟨#[3]⟩:ByteArray)=[3] from rfl];simp[Qlm]
  ·rw[ByteArray.size_append,ByteArray.size_append,hc];omega
 | false =>
  have hc:(⟨#[2]⟩:ByteArray).size=1:=rfl;refine⟨(((⟨#[2]⟩:ByteArray)++t1)++t2)++t3,?_,?_,?_⟩
  ·unfold Qbl.f;rw[if_neg (by decide),h1,Option.bind_some,if_pos (by omega),h2,Option.bind_some,if_pos (by rw[ByteArray.size_append,hc];omega),h3,Option.bind_some,if_pos (by rw[ByteArray.size_append,ByteArray.size_append,hc];omega)]
  ·rw[Qto,Qto,Qto,b1,b2,b3,show bytesOf (⟨#[2]⟩:ByteArray)=[2] from rfl];simp[Qlm]
  ·rw[ByteArray.size_append,ByteArray.size_append,ByteArray.size_append,hc];omega
theorem Quk(k:Nat)(s:ByteArray)(hs:s.size≤562949953421312)(hk:2*s.size+200≤k):∃t,Qbn.f k s=some t∧bytesOf t=Qml (bytesOf s):=by
 have hr:=Qmk 0 (bytesOf s);obtain⟨t1,h1,b1⟩:=num1 k 8 (Qmf 0 (bytesOf s)) (by omega) hr.1 hr.2 (by omega);have hz1:t1.size=8:=by rw[Qqw,b1,Qjs]
 obtain⟨t2,h2,b2⟩:=Qug (s++t1) k (by rw[ByteArray.size_append];omega) (by rw[ByteArray.size_append];omega);have hl:=Qmm _ (bytesOf (s++t1)) (Nat.le_refl _);have hz2:t2.size≤2*s.size+17:=by
  rw[Qqw t2,b2];rw[Qde,ByteArray.size_append]at hl;omega
 refine⟨t2++(⟨#[0]⟩:ByteArray),?_,?_⟩
 ·unfold Qbn.f;rw[Qrm 0 s k ⟨by omega,by omega⟩ (by omega) (by omega),Option.bind_some,show(8:Int)=((8:Nat):Int) from rfl,h1,Option.bind_some,if_pos (by omega),h2,Option.bind_some,if_pos (by omega)]
 ·rw[Qto,b2,Qto,b1];rfl
theorem Qul(k:Nat)(d:Bool)(s:Int)(key v:ByteArray)(hs0:0≤s)(hs1:s<18446744073709551616)(hk1:key.size≤35184372088832)(hv1:v.size≤35184372088832)(hk:2*(key.size+v.size)+300≤k) :
  ∃t,Qbm.f k d s key v=some t∧bytesOf t=Qml (Qlm d s key v):=by
 obtain⟨t1,h1,b1,z1⟩:=Quj k d s key v hs0 hs1 (by omega) (by omega) (by omega);obtain⟨t2,h2,b2⟩:=Quk k t1 (by omega) (by omega);refine⟨t2,?_,by rw[b2,b1]⟩;unfold Qbm.f;rw[h1,Option.bind_some,h2,Option.bind_some]
theorem Qum:∀(n:Nat) (b:List Int),b.length≤n→b.length<254→(Qks b).length=b.length+1
 | n,b,hn,h=>by
  rcases Int.lt_or_le (ixOf (b.take 254) 0) 0 with h0|h0
  ·rw[Qkx h0 (by omega)];simp
  ·obtain⟨p,hp⟩:=Int.eq_ofNat_of_zero_le h0;have h1:=(Qkq (b.take 254) 0).2;rw[List.length_take,hp]at h1;rw[Qkv hp]
   match n,hn with
   | 0,hn=>omega
   | n+1,hn =>
    have ih:=Qum n (b.drop (p+1)) qq_24 qq_24;rw[List.length_cons,List.length_append,ih,List.length_take,List.length_drop];omega
theorem Qun:∀(n:Nat) (x y:Int),0≤x→x≤y→(vput n x).length≤(vput n y).length
 | 0,_,_,_,_=>by simp[vput]
 | n+1,x,y,h0,h=>by
  have ih:=Qun n (x/128) (y/128) (by omega) (by omega);unfold vput
  by_cases hy:y<128
  ·rw[if_pos hy,if_pos (by omega)];simp
  ·rw[if_neg hy]
   by_cases hx:x<128
   ·rw[if_pos hx];simp
   ·rw[if_neg hx];simp;omega
def Quo(e s n:Int):Int:=((Qmq e s n).length:Int)
theorem Qup(e s n:Int):Quo e s n=3+(vput 9 s).length+(vput 9 n).length+10:=by
 unfold Quo Qmq Qml;have h1:=Qla 9 s;have h2:=Qla 9 n;have hl:([1,2,e]++vput 9 s++vput 9 n++leb (Qmf 0 ([1,2,e]++vput 9 s++vput 9 n)) 8).length=3+(vput 9 s).length+(vput 9 n).length+8:=by
  rw[List.length_append,List.length_append,List.length_append,Qjs];rfl
 rw[List.length_append,Qum _ _ (Nat.le_refl _) (by rw[hl];omega),hl];simp;omega
theorem Quq(e s n:Int):0≤Quo e s n∧Quo e s n≤100:=by
 rw[Qup];have h1:=Qla 9 s;have h2:=Qla 9 n;omega
theorem Qur(e s:Int){n m:Int}(h0:0≤n)(h:n≤m):Quo e s n≤Quo e s m:=by
 rw[Qup,Qup];have:=Qun 9 n m h0 h;omega
def Qus(n:Int):Int:=9+12*n+8*((n+15)/16)+8+1+(9+12*n+8*((n+15)/16)+8-1)/254+1
def szN(e:Int):Int:=2^e.toNat
def Good(e s:Int):Prop:=12≤e∧e≤24∧1≤s∧s≤65536
theorem Qut{e s:Int}(h:Good e s):Qao.f e s=some 0:=by
 obtain⟨h1,h2,h3,h4⟩:=h;unfold Qao.f;rw[if_neg (by omega),if_neg (by omega),if_neg (by omega),if_neg (by omega)]
theorem Quu{e s:Int}(h:¬Good e s):Qao.f e s=some 1:=by
 unfold Qao.f
 by_cases h1:e<12
 ·rw[if_pos h1]
 by_cases h2:e > 24
 ·rw[if_neg h1,if_pos h2]
 by_cases h3:s<1
 ·rw[if_neg h1,if_neg h2,if_pos h3]
 by_cases h4:s > 65536
 ·rw[if_neg h1,if_neg h2,if_neg h3,if_pos h4]
 ·exact absurd ⟨by omega,by omega,by omega,by omega⟩ h
theorem Quv{e:Int}(h1:12≤e)(h2:e≤24):4096≤szN e∧szN e≤16777216:=by
 unfold szN;obtain⟨n,rfl⟩:=Int.eq_ofNat_of_zero_le (show 0≤e by omega);rw[Int.toNat_natCast];have h3:(2:Nat)^12≤2^n:=Nat.pow_le_pow_right (by omega) (by omega);have h4:(2:Nat)^n≤2^24:=Nat.pow_le_pow_right (by omega) (by omega);have h5:((2^n:Nat):Int)=(2:Int)^n:=by rw[Int.natCast_pow];rfl
 rw[← h5];omega
theorem Quw{e s:Int}(h:Good e s):Qap.f e s=some (szN e):=by
 have hr:=Quv h.1 h.2.1;unfold Qap.f;rw[Qut h,Option.bind_some,if_pos rfl,if_pos (by have:=h.1;omega)]
 congr 1
 unfold shl;have hm:min e.toNat IntKind.i64.bits=e.toNat:=by simp[IntKind.bits];have:=h.2.1;omega
 rw[hm,Int.one_mul];exact IntWalk.i64_in _ (by unfold szN at hr;omega)
theorem Qux(c:Int)(h0:0≤c)(h1:c≤16777216):Qbq.f c=some (Qus c):=by
 have hm:mx 0 c=c:=by unfold mx;split<;>omega
 have hf:Qbp.f c=some ((c+15)/16):=by
  unfold Qbp.f;rw[hm];have e1:wrap64 ((wrap64 (c+16))-1)=c+15:=by unfold wrap64;omega
  rw[e1,Int.tdiv_eq_ediv_of_nonneg (by omega)]
  congr 1
  unfold wrap64;omega
 have ha:wrap64 ((wrap64 (9+(wrap64 (12*c))))+(wrap64 (8*((c+15)/16))))=9+12*c+8*((c+15)/16):=by unfold wrap64;omega
 unfold Qbq.f;rw[hm,hf,Option.bind_some,ha];obtain⟨m,hmm⟩:∃m,m=9+12*c+8*((c+15)/16):=⟨_,rfl⟩;have hm0:0≤m:=by omega
 have hm1:m≤1000000000:=by omega
 unfold Qus;rw[← hmm];clear hmm ha hf hm;have hx:mx 0 m=m:=by unfold mx;split<;>omega
 unfold Qbw.f Qal.f;rw[hx];have e1:wrap64 (m+8)=m+8:=by unfold wrap64;omega
 rw[e1,if_neg (by omega)];have e2:wrap64 (m+8-1)=m+8-1:=by unfold wrap64;omega
 rw[e2,Int.tdiv_eq_ediv_of_nonneg (by omega),Option.bind_some,Option.bind_some]
 congr 1
 unfold wrap64;omega
theorem Quy(c:Int)(h0:0≤c)(h1:c≤16777216):12*c≤Qus c∧Qus c≤1000000000:=by unfold Qus;omega
def Quz(e u c x:Int):Bool:=decide (1≤x∧u+x+Qus (c+1)≤szN e)
theorem Qva{e s:Int}(h:Good e s)(n u c x:Int)(hu0:0≤u)(hu1:u≤16777216)(hc0:0≤c)(hc1:c≤8388608)(hx1:x≤1152921504606846976):Qcd.f e s n u c x=some (Quz e u c x):=by
 have hz:=Quv h.1 h.2.1;have hm:=Quy (c+1) (by omega) (by omega);unfold Qcd.f Quz
 by_cases hx:x≥1
 ·rw[if_pos hx];unfold Qce.f;rw[Quw h,Option.bind_some,show wrap64 (c+1)=c+1 by unfold wrap64;omega,Qux (c+1) (by omega) (by omega),Option.bind_some,Option.bind_some]
  congr 1
  have e1:wrap64 (wrap64 (szN e-u)-Qus (c+1))=szN e-u-Qus (c+1):=by unfold wrap64;omega
  rw[e1];unfold mx;rw[decide_eq_decide];split<;>omega
 ·rw[if_neg hx]
  congr 1
  symm
  rw[decide_eq_false_iff_not];omega
theorem Qvb{e u c x:Int}(h:Quz e u c x=true):1≤x∧u+x+Qus (c+1)≤szN e:=by simpa [Quz]using h
theorem Qvc{e s:Int}(h:Good e s)(n u c x:Int)(hu0:0≤u)(hu1:u≤16777216)(hc0:0≤c)(hc1:c≤8388608)(hx1:x≤1152921504606846976)(hf:Quz e u c x=true):Qcf.f e s n u c x=some (e,s,n,u+x,c+1,0):=by
 have hz:=Quv h.1 h.2.1;have hm:=Quy (c+1) (by omega) (by omega);obtain⟨f1,f2⟩:=Qvb hf;unfold Qcf.f;rw[Qva h n u c x hu0 hu1 hc0 hc1 hx1,Option.bind_some,hf,if_pos rfl,show wrap64 (u+x)=u+x by unfold wrap64;omega,show wrap64 (c+1)=c+1 by unfold wrap64;omega]
theorem Qvd{e s:Int}(h:Good e s)(n:Int)(h0:0≤n)(h1:n<s):Qbt.f e s n=some (Qmq e s n,0):=by
 obtain⟨a,b,c,d⟩:=h;unfold Qbt.f Qbx.f;rw[Qut ⟨a,b,c,d⟩,Option.bind_some,if_pos rfl,if_neg (by omega),Option.bind_some,if_pos rfl,if_pos ⟨by omega,by omega,by omega,by omega,by omega,by omega⟩]
theorem Qve{e s:Int}(h:Good e s)(n:Int)(h0:0≤n)(h1:n<s):Qcb.f e s n=some (e,s,n,Quo e s n,0,0):=by
 unfold Qcb.f;rw[Qvd h n h0 h1,Option.bind_some,if_pos rfl];rfl
theorem Qvf{e s:Int}(h:Good e s)(n:Int)(h1:s≤n):Qcb.f e s n=some (0,0,0,0,0,1):=by
 unfold Qcb.f Qbt.f Qbx.f;rw[Qut h,Option.bind_some,if_pos rfl,if_pos (by omega),Option.bind_some,if_neg (by decide),Option.bind_some,if_neg (by decide)]
def Qvg(e s:Int):List Int→List Int→Int→Int→Int→List Int × Int
 | [],out,_,_,_=>(out,0)
 | x :: t,out,n,u,c =>
  if Quz e (Quo e s (s-1)) 0 x=false then([],6)
  else if Quz e u c x=true then Qvg e s t (out++[n]) n (u+x) (c+1)
  else if n+1<s then Qvg e s t (out++[n+1]) (n+1) (Quo e s (n+1)+x) 1
  else([],7)
theorem Qvh{e s:Int}(h:Good e s){n x:Int}(h0:0≤n)(h1:n≤s-1)(hf:Quz e (Quo e s (s-1)) 0 x=true):Quz e (Quo e s n) 0 x=true:=by
 obtain⟨f1,f2⟩:=Qvb hf;have:=Qur e s h0 h1;simp only[Quz,decide_eq_true_eq];omega
theorem Qvi{l:List Int}{i:Nat}(h:i<l.length):l.drop i=rd l (i:Int) :: l.drop (i+1):=by rw[List.drop_eq_getElem_cons h,rd_get h]
theorem Qvj{e s:Int}(h:Good e s){u c x:Int}(hc0:0≤c)(hc1:c≤8388608)(hu0:0≤u)(hf:Quz e u c x=true):0≤u+x∧u+x≤16777216∧0≤c+1∧c+1≤8388608:=by
 have hz:=Quv h.1 h.2.1;have hm:=Quy (c+1) (by omega) (by omega);obtain⟨f1,f2⟩:=Qvb hf;omega
theorem Qvk{e s:Int}(h:Good e s)(l:List Int)(hl:l.length≤1000000)(hx:∀x∈l,x≤1152921504606846976):∀(d i k:Nat) (out:List Int) (n u c:Int),i+d=l.length→out.length=i→0≤n→n<s→0≤u→u≤16777216→0≤c→c≤8388608→d+1≤k →
  Qcc.l0 k out l (l.length:Int) (i:Int) e s e s n u c e s (s-1) (Quo e s (s-1)) 0=some (Qvg e s (l.drop i) out n u c)
 | 0,i,k,out,n,u,c,hi,ho,hn0,hn1,hu0,hu1,hc0,hc1,hk=>by
  obtain⟨k,rfl⟩:∃m,k=m+1:=⟨k-1,by omega⟩;rw[List.drop_of_length_le (by omega)];unfold Qcc.l0;rw[if_neg (by omega)];rfl
 | d + 1,i,k,out,n,u,c,hi,ho,hn0,hn1,hu0,hu1,hc0,hc1,hk=>by
  obtain⟨k,rfl⟩:∃m,k=m+1:=⟨k-1,by omega⟩;have hg:=h;obtain⟨a1,a2,a3,a4⟩:=h;have hil:i<l.length:=by omega
  have hxi:rd l (i:Int)≤1152921504606846976:=by rw[rd_get hil];exact hx _ (List.getElem_mem hil)
  have hH:=Quq e s (s-1);rw[Qvi hil];unfold Qcc.l0;rw[if_pos (by omega),if_pos (by omega),if_pos (by omega),Qub i (by omega)];generalize hxx:rd l (i:Int)=x at *;rw[Qva hg (s-1) (Quo e s (s-1)) 0 x hH.1 (by omega) (by omega) (by omega) hxi,Option.bind_some];unfold Qvg
  by_cases hf:Quz e (Quo e s (s-1)) 0 x=false
  ·rw[hf,if_neg (by decide),if_pos rfl]
  ·have hft:Quz e (Quo e s (s-1)) 0 x=true:=by simpa using hf
   rw[if_neg hf,if_pos hft,Qva hg n u c x hu0 hu1 hc0 hc1 hxi,Option.bind_some]
   by_cases hq:Quz e u c x=true
   ·have haf:=Qvj hg hc0 hc1 hu0 hq;rw[if_pos hq,if_pos hq,Qvc hg n u c x hu0 hu1 hc0 hc1 hxi hq,Option.bind_some,if_pos (by omega)];exact Qvk hg l hl hx d (i+1) k (out++[n]) n (u+x) (c+1) (by omega) (by rw[List.length_append,ho];rfl) hn0 hn1 haf.1 haf.2.1 haf.2.2.1 haf.2.2.2 (by omega)
   ·rw[if_neg hq,if_neg hq,show(n+1)%4294967296=n+1 by omega]
    by_cases hs:n+1<s
    ·have hfn:=Qvh hg (show 0≤n+1 by omega) (by omega) hft;have hHn:=Quq e s (n+1);have haf:=Qvj hg (Int.le_refl 0) (by omega) hHn.1 hfn;rw[if_pos hs,Qve hg (n+1) (by omega) hs,Option.bind_some,if_pos rfl,Qvc hg (n+1) (Quo e s (n+1)) 0 x hHn.1 (by omega) (by omega) (by omega) hxi hfn,Option.bind_some,if_pos (by omega)];exact Qvk hg l hl hx d (i+1) k (out++[n+1]) (n+1) (Quo e s (n+1)+x) 1 (by omega) (by rw[List.length_append,ho];rfl) (by omega) hs haf.1 haf.2.1 (by omega) (by omega) (by omega)
    ·rw[if_neg hs,Qvf hg (n+1) (by omega),Option.bind_some,if_neg (by decide)]
theorem Qvl{e s:Int}(h:Good e s)(l:List Int)(k:Nat)(hl:l.length≤1000000)(hx:∀x∈l,x≤1152921504606846976)(hk:l.length+1≤k):Qcc.f k e s l=some (Qvg e s l [] 0 (Quo e s 0) 0):=by
 have hg:=h;obtain⟨a1,a2,a3,a4⟩:=h;have hH:=Quq e s 0;unfold Qcc.f;rw[Qve hg 0 (by omega) (by omega),Option.bind_some,if_pos rfl,show(s-1)%4294967296=s-1 by omega,Qve hg (s-1) (by omega) (by omega),Option.bind_some];exact Qvk hg l hl hx l.length 0 k [] 0 (Quo e s 0) 0 (by omega) rfl (by omega) (by omega) hH.1 (by omega) (by omega) (by omega) hk
end Go.Proofs.YteaocbonofboeaaGreat.CodecP
end
