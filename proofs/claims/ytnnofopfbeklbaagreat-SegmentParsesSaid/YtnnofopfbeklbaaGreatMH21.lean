/- Texts of this claim's author and of the print of its functions, merged by merge.py. -/
import Derived.Test.YtnnofopfbeklbaaGreatMH20
import Derived.Test.YtnnofopfbeklbaaGreatMH03
import Derived.Test.YtnnofopfbeklbaaGreatMH11
import Derived.Test.YtnnofopfbeklbaaGreatMH16
import Derived.Test.YtnnofopfbeklbaaGreatMH15
set_option linter.unusedVariables false
set_option linter.unusedSimpArgs false
set_option maxHeartbeats 8000000
set_option maxRecDepth 100000
section
namespace Go.Proofs.YtnnofopfbeklbaaGreat.CodecP
open Go.RowKit Go.Proofs.YtnnofopfbeklbaaGreat.C Go.Proofs.YtnnofopfbeklbaaGreatW.PrintWords Go.Proofs.YtnnofopfbeklbaaGreatW.PrintLast Go.Proofs.YtnnofopfbeklbaaGreatW.PrintMore
theorem Qnq(a b:ByteArray):bytesOf (a++b)=bytesOf a++bytesOf b:=by
 unfold bytesOf
 rw[← List.map_append]
 congr 1
theorem Qnr{x:Int}(h:0≤x∧x<256):((UInt8.ofNat x.toNat).toNat:Int)=x:=by
 obtain⟨n,rfl⟩:=Int.eq_ofNat_of_zero_le h.1
 simp[UInt8.toNat_ofNat']
 omega
theorem bytesOf_nums{l:List Int}(h:Bytes l):bytesOf (strOfNums l)=l:=by
 unfold bytesOf
 rw[strOfNums_data,List.map_map]
 conv=>rhs;rw[← List.map_id l]
 apply List.map_congr_left
 intro x hx
 exact Qnr (h x hx)
theorem Qns{a b:ByteArray}(h:bytesOf a=bytesOf b):a=b:=by
 have h1:a.data.toList=b.data.toList:=by
  unfold bytesOf at h
  exact List.map_inj_right (f:=fun b:UInt8=>(b.toNat:Int)) (fun x y hxy=>UInt8.toNat_inj.1 (Int.ofNat.inj hxy)) |>.1 h
 have h2:a.data=b.data:=Array.toList_inj.1 h1
 cases a;cases b;simp_all
theorem Qnt(s:ByteArray):strOfNums (bytesOf s)=s:=Qns (bytesOf_nums (Qmj s))
def Free(l:List Int):Prop:=∀x∈l,x≠0
theorem Qnu{c:Int}(h:0≤c∧c<256):(UInt8.ofNat c.toNat == (0:Int).toNat.toUInt8)=decide (c=0):=by
 rw[Bool.eq_iff_iff,beq_iff_eq,decide_eq_true_iff]
 constructor
 ·intro e
  have h1:=Qnr h
  rw[e]at h1
  simpa using h1.symm
 ·rintro rfl
  rfl
theorem Qnv:∀ {l:List Int},Bytes l→Free l→ixOf l 0=-1
 | [],_,_=>rfl
 | c :: l,hb,hf=>by
  have h1:=hb c (List.mem_cons_self ..)
  have h2:=hf c (List.mem_cons_self ..)
  have ih:=Qnv (l:=l) (fun x hx=>hb x (List.mem_cons_of_mem _ hx)) (fun x hx=>hf x (List.mem_cons_of_mem _ hx))
  unfold ixOf at ih ⊢
  simp only[Lib.bytesOf,List.map_cons,Lib.indexByte,Qnu h1]at ih ⊢
  rw[ih]
  simp[h2]
theorem Qnw:∀ {a b:List Int},Bytes a→Free a→ixOf (a++0 :: b) 0=a.length
 | [],b,_,_=>by
  unfold ixOf
  simp[Lib.bytesOf,Lib.indexByte]
 | c :: a,b,hb,hf=>by
  have h1:=hb c (List.mem_cons_self ..)
  have h2:=hf c (List.mem_cons_self ..)
  have ih:=Qnw (a:=a) (b:=b) (fun x hx=>hb x (List.mem_cons_of_mem _ hx)) (fun x hx=>hf x (List.mem_cons_of_mem _ hx))
  unfold ixOf at ih ⊢
  simp only[Lib.bytesOf,List.cons_append,List.map_cons,Lib.indexByte,Qnu h1]at ih ⊢
  rw[ih]
  have:((a.length:Int) == -1)=false:=by rw[beq_eq_false_iff_ne];omega
  simp[h2,this]
theorem Qnx{a:List Int}(hb:Bytes a)(hf:Free a)(n:Nat):ixOf (a.take n) 0=-1:=Qnv (hb.take n) (fun x hx=>hf x (List.mem_of_mem_take hx))
theorem Qny{now rest:List Int}(hb:Bytes now)(hf:Free now)(hl:now.length<254):Qkw (now++0 :: rest)=(((now.length:Int)+1)%256) :: (now++Qkw rest):=by
 have e:ixOf ((now++0 :: rest).take 254) 0=(now.length:Int):=by
  obtain⟨m,hm⟩:∃m,254-now.length=m+1:=⟨253-now.length,by omega⟩
  rw[List.take_append,List.take_of_length_le (by omega),hm,List.take_succ_cons]
  exact Qnw hb hf
 rw[Qkz e,List.take_left',List.drop_append,List.drop_of_length_le (by omega)]
 ·simp
 ·rfl
theorem Qnz{now:List Int}(hb:Bytes now)(hf:Free now)(hl:now.length≤254):Qkw now=(((now.length:Int)+1)%256) :: now :=
 Qlb (by rw[Qnx hb hf];omega) (by omega)
theorem Qoa{now rest:List Int}(hb:Bytes now)(hf:Free now)(hl:now.length=254)(hr:rest≠[]):Qkw (now++rest)=255 :: (now++Qkw rest):=by
 have hr':0<rest.length:=List.length_pos_iff.2 hr
 have e1:(now++rest).take 254=now:=by rw[← hl];exact List.take_left' rfl
 have e2:(now++rest).drop 254=rest:=by rw[← hl];exact List.drop_left' rfl
 rw[Qla (by rw[e1,Qnv hb hf];omega) (by rw[List.length_append];omega),e1,e2]
theorem Qob(s:ByteArray)(i:Nat):bt s (i:Int)=rd (bytesOf s) (i:Int):=(Qdg s (i:Int)).symm
theorem ext_one(s:ByteArray)(i:Nat)(h:i<s.size):bytesOf (s.extract i (i+1))=[bt s (i:Int)]:=by
 rw[Qmm,Qob,rd_get (by rw[Qdf];exact h),Nat.add_sub_cancel_left,List.drop_eq_getElem_cons (by rw[Qdf];exact h)]
 rfl
theorem size_nil_iff(s:ByteArray):s.toList=([]:List UInt8)↔s.size=0:=by
 constructor
 ·intro h
  have h1:s.toList.length=s.size:=by rw[Lib.toList_data,Qde]
  rw[h]at h1
  simpa using h1.symm
 ·intro h
  have h1:s.toList.length=s.size:=by rw[Lib.toList_data,Qde]
  exact List.eq_nil_of_length_eq_zero (by omega)
theorem Qoc(i:Nat)(h:i<4611686018427387904):wrap64 ((i:Int)+1)=((i+1:Nat):Int):=by unfold wrap64;omega
def Qod(L now rest:List Int)(i:Nat):List Int:=if now=[]∧rest=[]∧0<i∧rd L ((i:Int)-1)≠0 then []else Qkw (now++rest)
theorem Qoe(k:Nat)(all out now:ByteArray)(i:Nat)(hs:out.size+now.size+1≤9223372036854775807)(hn:now.size<254)(hi:i<4611686018427387904) :
  ∃o',bytesOf o'=bytesOf out++((((bytesOf now).length:Int)+1)%256) :: bytesOf now∧Qbi.j1 (k+1) all out now (i:Int) false=Qbi.l0 k all o' (⟨#[]⟩:ByteArray) ((i+1:Nat):Int):=by
 have hw:wrap64 ((now.size:Int)+1)%256=(now.size:Int)+1:=by unfold wrap64;omega
 have hsz:(strOfNums [(now.size:Int)+1]).size=1:=by rw[strOfNums_size];rfl
 refine⟨(out++strOfNums [(now.size:Int)+1])++now,?_,?_⟩
 ·rw[Qnq,Qnq,bytesOf_nums (by intro x hx;simp at hx;omega),Qdf,List.append_assoc]
  rw[show((now.size:Int)+1)%256=(now.size:Int)+1 by omega]
  rfl
 ·unfold Qbi.j1
  rw[if_neg (by decide),Option.bind_some,hw,if_pos (by omega),if_pos qq_18,show wrap64 ((i:Int)+1)=((i+1:Nat):Int)by unfold wrap64;omega]
theorem Qof(s:ByteArray)(hs:s.size≤1152921504606846976):∀(d i k:Nat) (out now:ByteArray),i+d=s.size→Free (bytesOf now)→now.size<254→out.size+now.size≤4*i→2*d+5≤k →
  ∃o',Qbi.l0 k (s++(⟨#[0]⟩:ByteArray)) out now (i:Int)=some o'∧bytesOf o'=bytesOf out++Qod (bytesOf s) (bytesOf now) ((bytesOf s).drop i) i
 | 0, i,k,out,now,hi,hf,hn,ho,hk=>by
  obtain⟨k,rfl⟩:∃m,k=m+3:=⟨k-3,by omega⟩
  have hall:(s++(⟨#[0]⟩:ByteArray)).size=s.size+1:=by rw[ByteArray.size_append];rfl
  have hbA:bytesOf (s++(⟨#[0]⟩:ByteArray))=bytesOf s++[0]:=by rw[Qnq];rfl
  have hlen:=Qdf s
  have hbt:bt (s++(⟨#[0]⟩:ByteArray)) (i:Int)=0:=by
   rw[Qob,rd_get (by rw[hbA,List.length_append,hlen];simp;omega)]
   simp only[hbA]
   rw[List.getElem_append_right (by omega)]
   simp
  have hd:(bytesOf s).drop i=[]:=List.drop_of_length_le (by omega)
  have hwl:wrap64 (((s++(⟨#[0]⟩:ByteArray)).size:Int)-1)=(i:Int):=by rw[hall];unfold wrap64;omega
  have hnl:=Qdf now
  have hend:∀(o:ByteArray) (m:Nat),Qbi.l0 (m+1) (s++(⟨#[0]⟩:ByteArray)) o (⟨#[]⟩:ByteArray) ((i+1:Nat):Int)=some o:=by
   intro o m
   unfold Qbi.l0
   rw[if_neg (by rw[hall];omega)]
  obtain⟨oj,hj1,hj2⟩:=Qoe (k+1) (s++(⟨#[0]⟩:ByteArray)) out now i (by omega) hn (by omega)
  have hstf:Qkw (bytesOf now++[])=((((bytesOf now).length:Int)+1)%256) :: bytesOf now:=by
   rw[List.append_nil]
   exact Qnz (Qmj now) hf (by omega)
  unfold Qbi.l0
  rw[if_pos (by rw[hall];omega),if_pos (by omega),hbt,if_pos rfl,hwl,if_pos rfl]
  by_cases hne:now.size=0
  ·rw [if_pos ((size_nil_iff now).2 hne)]
   have hn0:bytesOf now=[]:=List.eq_nil_of_length_eq_zero (by omega)
   by_cases h0:0<i
   ·have hw1:wrap64 ((i:Int)-1)=((i-1:Nat):Int):=by unfold wrap64;omega
    rw[if_pos (by omega),hw1,if_pos (by omega),if_pos (by rw[hall];omega)]
    have hb1:bt (s++(⟨#[0]⟩:ByteArray)) ((i-1:Nat):Int)=rd (bytesOf s) ((i:Int)-1):=by
     rw[show(i:Int)-1=((i-1:Nat):Int)by omega,Qob,rd_get (by rw[hbA,List.length_append,hlen];simp;omega),rd_get (by omega)]
     simp only[hbA]
     rw[List.getElem_append_left (by omega)]
    rw[hb1]
    by_cases hz:rd (bytesOf s) ((i:Int)-1)=0
    ·rw[hz,show((0:Int) != 0)=false from rfl,hj2]
     refine⟨oj,hend _ _,?_⟩
     rw[hj1,hd]
     unfold Qod
     rw[if_neg (by intro h;exact h.2.2.2 hz),hstf]
    ·refine⟨out,?_,?_⟩
     ·unfold Qbi.j1
      rw[if_pos (by simpa using hz)]
     ·rw[hd]
      unfold Qod
      rw[if_pos ⟨hn0,rfl,h0,hz⟩,List.append_nil]
   ·rw[if_neg (by omega),hj2]
    refine⟨oj,hend _ _,?_⟩
    rw[hj1,hd]
    unfold Qod
    rw[if_neg (by intro h;exact h0 h.2.2.1),hstf]
  ·rw[if_neg (by intro h;exact hne ((size_nil_iff now).1 h)),hj2]
   refine⟨oj,hend _ _,?_⟩
   rw[hj1,hd]
   unfold Qod
   rw[if_neg (by intro h;have:=h.1;rw[this]at hnl;exact hne hnl.symm),hstf]
 | d + 1,i,k,out,now,hi,hf,hn,ho,hk=>by
  obtain⟨k,rfl⟩:∃m,k=m+2:=⟨k-2,by omega⟩
  have hall:(s++(⟨#[0]⟩:ByteArray)).size=s.size+1:=by rw[ByteArray.size_append];rfl
  have hbA:bytesOf (s++(⟨#[0]⟩:ByteArray))=bytesOf s++[0]:=by rw[Qnq];rfl
  have hlen:=Qdf s
  have hil:i<(bytesOf s).length:=by omega
  obtain⟨c,hc⟩:∃c,c=(bytesOf s)[i]:=⟨_,rfl⟩
  have hbt:bt (s++(⟨#[0]⟩:ByteArray)) (i:Int)=c:=by
   rw[Qob,rd_get (by rw[hbA,List.length_append];omega),hc]
   simp only[hbA]
   rw[List.getElem_append_left hil]
  have hcb:0≤c∧c<256:=by rw[hc];exact Qmj s _ (List.getElem_mem hil)
  have hdrop:(bytesOf s).drop i=c :: (bytesOf s).drop (i+1):=by rw[hc];exact List.drop_eq_getElem_cons hil
  have hrd:rd (bytesOf s) (((i+1:Nat):Int)-1)=c:=by rw[show(((i+1:Nat):Int)-1)=(i:Int)by omega,rd_get hil,hc]
  have hnl:=Qdf now
  have hnot:¬(i:Int)=wrap64 (((s++(⟨#[0]⟩:ByteArray)).size:Int)-1):=by rw[hall];unfold wrap64;omega
  have hnil:bytesOf (⟨#[]⟩:ByteArray)=[]:=rfl
  rw[hdrop]
  unfold Qbi.l0
  rw[if_pos (by rw[hall];omega),if_pos (by omega),hbt]
  by_cases hz:c=0
  ·subst hz
   rw[if_pos rfl,if_neg hnot]
   obtain⟨oj,hj1,hj2⟩:=Qoe k (s++(⟨#[0]⟩:ByteArray)) out now i (by omega) hn (by omega)
   have hjs:oj.size=out.size+now.size+1:=by
    have:=congrArg List.length hj1
    rw[Qdf,List.length_append,List.length_cons,Qdf,Qdf]at this
    omega
   rw[hj2]
   obtain⟨o',h1,h2⟩:=Qof s hs d (i+1) k oj (⟨#[]⟩:ByteArray) (by omega) (by intro x hx;rw[hnil]at hx;cases hx) (by decide) (by rw[hjs];show _+0≤_;omega) (by omega)
   refine⟨o',h1,?_⟩
   rw[h2,hj1,hnil]
   unfold Qod
   rw[if_neg (by intro h;exact h.2.2.2 hrd),if_neg (by intro h;cases h.2.1),List.nil_append,Qny (Qmj now) hf (by omega)]
   simp
  ·rw[if_neg hz,Qoc i (by omega),if_pos (by omega),if_pos (by rw[hall];omega)]
   obtain⟨x1,hx1⟩:∃x1,x1=(s++(⟨#[0]⟩:ByteArray)).extract (i:Int).toNat ((i+1:Nat):Int).toNat:=⟨_,rfl⟩
   have hxb:bytesOf x1=[c]:=by
    rw[hx1,Int.toNat_natCast,Int.toNat_natCast,ext_one _ _ (by rw[hall];omega),hbt]
   have hxs:x1.size=1:=by rw[Qmn,hxb];rfl
   rw[← hx1,if_pos (by omega)]
   have hnb:bytesOf (now++x1)=bytesOf now++[c]:=by rw[Qnq,hxb]
   have hns:(now++x1).size=now.size+1:=by rw[ByteArray.size_append,hxs]
   have hfree:Free (bytesOf now++[c]):=by
    intro x hx
    rcases List.mem_append.1 hx with h|h
    ·exact hf x h
    ·simp at h;rw[h];exact hz
   by_cases hfull:((now++x1).size:Int)=254
   ·rw[if_pos hfull,if_pos (by omega)]
    have hos:(out++(⟨#[255]⟩:ByteArray)).size=out.size+1:=by rw[ByteArray.size_append];rfl
    rw[if_pos (by rw[hos];omega)]
    obtain⟨o',h1,h2⟩:=Qof s hs d (i+1) (k+1) ((out++(⟨#[255]⟩:ByteArray))++(now++x1)) (⟨#[]⟩:ByteArray) (by omega) (by intro x hx;rw[hnil]at hx;cases hx) (by decide) (by rw[ByteArray.size_append,hos];show _+0≤_;omega) (by omega)
    refine⟨o',h1,?_⟩
    rw[h2,Qnq,Qnq,hnb,hnil,show bytesOf (⟨#[255]⟩:ByteArray)=[255] from rfl]
    have hl254:(bytesOf now++[c]).length=254:=by rw[List.length_append,hnl];simp;omega
    have hbb:Bytes (bytesOf now++[c]):=by rw[← hnb];exact Qmj _
    unfold Qod
    by_cases hr:(bytesOf s).drop (i+1)=[]
    ·rw[if_pos ⟨rfl,hr,by omega,by rw[hrd];exact hz⟩,if_neg (by intro h;cases h.2.1),hr,Qnz hbb hfree (by omega),hl254]
     simp
    ·rw[if_neg (by intro h;exact hr h.2.1),if_neg (by intro h;cases h.2.1),List.nil_append]
     have:=Qoa hbb hfree hl254 hr
     rw[List.append_assoc]at this
     rw[show bytesOf now++c :: (bytesOf s).drop (i+1)=bytesOf now++([c]++(bytesOf s).drop (i+1)) from rfl,this]
     simp
   ·rw[if_neg hfull]
    obtain⟨o',h1,h2⟩:=Qof s hs d (i+1) (k+1) out (now++x1) (by omega) (by rw[hnb];exact hfree) (by omega) (by omega) (by omega)
    refine⟨o',h1,?_⟩
    rw[h2,hnb]
    unfold Qod
    rw[if_neg (by intro h;have:=h.1;simp at this),if_neg (by intro h;cases h.2.1)]
    simp
theorem Qog(s:ByteArray)(k:Nat)(hs:s.size≤1152921504606846976)(hk:2*s.size+5≤k):∃o',Qbi.f k s=some o'∧bytesOf o'=Qkw (bytesOf s):=by
 have hnil:bytesOf (⟨#[]⟩:ByteArray)=[]:=rfl
 obtain⟨o',h1,h2⟩:=Qof s hs s.size 0 k (⟨#[]⟩:ByteArray) (⟨#[]⟩:ByteArray) (by omega) (by intro x hx;rw[hnil]at hx;cases hx) (by decide) (by decide) hk
 refine⟨o',?_,?_⟩
 ·unfold Qbi.f
  rw[if_pos (by omega)]
  exact h1
 ·rw[h2,hnil]
  unfold Qod
  rw[if_neg (by intro h;exact absurd h.2.2.1 (by omega))]
  simp
theorem num_key(l:List Int)(hb:Bytes l)(hn8:l.length≤8):Qcs.l0 (l.length+1) l 0 (l.length:Int) 0=some (leI l):=by
 obtain⟨n,hl'⟩:∃n,n=l.length:=⟨_,rfl⟩
 have hl:n≤l.length:=by omega
 have hn:n≤8:=by omega
 have key:∀(d i:Nat),i+d=n→Qcs.l0 (d+1) l (leI (l.take i)) (n:Int) (i:Int)=some (leI (l.take n)):=by
  intro d
  induction d with
  | zero =>
   intro i h
   unfold Qcs.l0
   obtain rfl:i=n:=by omega
   rw[if_neg (by omega)]
  | succ d ih =>
   intro i h
   unfold Qcs.l0
   have hw:wrap64 (8*(i:Int))=((8*i:Nat):Int):=by unfold wrap64;omega
   rw[if_pos (by omega),if_pos (by omega),if_pos (by omega),hw,if_pos (by omega),show wrap64 ((i:Int)+1)=((i+1:Nat):Int)by unfold wrap64;omega]
   have hr:=leI_range (hb.take i)
   have hlen:(l.take i).length=i:=by rw[List.length_take];omega
   rw[hlen]at hr
   have hd:=rd_range hb (show i<l.length by omega)
   have e:Go.bits .or .u64 (leI (l.take i)) (shl .u64 (IntKind.u64.wrap (rd l (i:Int))) ((8*i:Nat):Int))=leI (l.take (i+1)):=by
    rw[Qml (by omega),Qmk,hlen,IntWalk.u64_in _ (by omega)]
    generalize rd l (i:Int)=b at *
    generalize leI (l.take i)=a at *
    obtain⟨a,rfl⟩:=Int.eq_ofNat_of_zero_le hr.1
    obtain⟨b,rfl⟩:=Int.eq_ofNat_of_zero_le hd.1
    have hp:(256:Nat)^i=2^(8*i):=by rw[Nat.pow_mul]
    have ha:a<2^(8*i):=by
     have:=hr.2
     rw[← hp]
     exact_mod_cast this
    have hbig:b*2^(8*i)<2^64:=by
     have h1:b*2^(8*i)<2^8*2^(8*i):=Nat.mul_lt_mul_of_pos_right (by omega) (Nat.two_pow_pos _)
     have h2:(2:Nat)^8*2^(8*i)≤2^64:=by rw[← Nat.pow_add];exact Nat.pow_le_pow_right (by omega) (by omega)
     omega
    have ha2:a<2^64:=by
     have h2:(2:Nat)^(8*i)≤2^64:=Nat.pow_le_pow_right (by omega) (by omega)
     omega
    unfold shl
    rw[show min ((8*i:Nat):Int).toNat IntKind.u64.bits=8*i by simp[IntKind.bits];omega,IntKind.wrap_u64]
    have e1:((b:Int)*2^(8*i))%18446744073709551616=((2^(8*i)*b:Nat):Int):=by
     have e2:((b:Int)*2^(8*i))=((b*2^(8*i):Nat):Int):=by push_cast;rfl
     rw[e2,Nat.mul_comm (2^(8*i)) b]
     omega
    rw[e1,bits_or_u64_nat _ _ (by omega) (by rw[Nat.mul_comm];omega),Nat.or_comm,← Nat.two_pow_add_eq_or_of_lt ha]
    have e3:((256:Int)^i*(b:Int))=((256^i*b:Nat):Int):=by push_cast;rfl
    rw[e3,hp]
    omega
   rw[e]
   exact ih (i+1) (by omega)
 have h:=key n 0 (by omega)
 rw[show leI (l.take 0)=0 from rfl,show((0:Nat):Int)=0 from rfl,hl',List.take_length]at h
 exact h
theorem byte_key(b:Int)(hb:0≤b∧b<256):∃k x,Qcs.l0 k [b] 0 (([b]:List Int).length:Int) 0=some x∧IntKind.u8.wrap x=b:=by
 refine⟨_,_,num_key [b] (fun y hy=>by rw[List.mem_singleton.1 hy];exact hb) (by simp),?_⟩
 simp only[leI]
 rw[show b+256*0=b by omega]
 exact IntWalk.u8_in _ (by omega)
theorem Qus:∀(n k:Nat) (x:Int),n≤9→0≤x→x<128^(n+1)→x<18446744073709551616→n+1≤k→∃t,Qbb.f k x=some t∧bytesOf t=vput n x
 | 0,k,x,hn,h0,h1,h2,hk=>by
  obtain⟨k,rfl⟩:∃m,k=m+1:=⟨k-1,by omega⟩
  have hx:x<128:=by simpa using h1
  refine⟨strOfNums [x%256],?_,?_⟩
  ·unfold Qbb.f
   rw[if_pos hx]
  ·rw[bytesOf_nums (by intro y hy;simp at hy;omega)]
   simp[vput]
   omega
 | n+1,k,x,hn,h0,h1,h2,hk=>by
  obtain⟨k,rfl⟩:∃m,k=m+1:=⟨k-1,by omega⟩
  by_cases hx:x<128
  ·refine⟨strOfNums [x%256],?_,?_⟩
   ·unfold Qbb.f
    rw[if_pos hx]
   ·rw[bytesOf_nums (by intro y hy;simp at hy;omega)]
    simp[vput,hx]
    omega
  ·have hq:x/128<128^(n+1):=by
    rw[Int.pow_succ]at h1
    exact Int.ediv_lt_of_lt_mul (by omega) h1
   obtain⟨t,ht,hb⟩:=Qus n k (x/128) (by omega) (by omega) hq (by omega) (by omega)
   have e1:IntKind.u64.wrap (Int.tdiv x 128)=x/128:=by rw[Int.tdiv_eq_ediv_of_nonneg h0,IntWalk.u64_in _ (by omega)]
   have e2:IntKind.u64.wrap (128+(Int.tmod x 128))%256=x%128+128:=by rw[Int.tmod_eq_emod_of_nonneg h0,IntWalk.u64_in _ (by omega)];omega
   have hl:=Qle n (x/128)
   have hts:t.size≤n+1:=by rw[Qmn,hb];exact hl
   have hy:(strOfNums [x%128+128]).size=1:=by rw[strOfNums_size];rfl
   refine⟨strOfNums [x%128+128]++t,?_,?_⟩
   ·unfold Qbb.f
    rw[if_neg hx,Option.bind_some,e1,e2,ht,Option.bind_some,hy]
    rw[if_pos (by omega)]
   ·rw[Qnq,bytesOf_nums (by intro y hy';simp at hy';omega),hb]
    simp[vput,hx]
theorem num2(k:Nat)(x:Int)(h0:0≤x)(h1:x<18446744073709551616)(hk:10≤k):∃t,Qbb.f k x=some t∧bytesOf t=vput 9 x :=
 Qus 9 k x (by omega) h0 (by omega) h1 hk
theorem Qut:∀(d k:Nat) (n i:Nat) (x:Int) (out:ByteArray),i+d=n→n≤1000→0≤x→x<18446744073709551616→out.size≤i→d+1≤k →
  ∃t,Qaw.l0 k x out (n:Int) (i:Int)=some t∧bytesOf t=bytesOf out++leb x d
 | 0,k,n,i,x,out,h,hn,h0,h1,ho,hk=>by
  obtain⟨k,rfl⟩:∃m,k=m+1:=⟨k-1,by omega⟩
  refine⟨out,?_,by simp[leb]⟩
  unfold Qaw.l0
  rw[if_neg (by omega)]
 | d+1,k,n,i,x,out,h,hn,h0,h1,ho,hk=>by
  obtain⟨k,rfl⟩:∃m,k=m+1:=⟨k-1,by omega⟩
  have e1:(Int.tmod x 256)%256=x%256:=by rw[Int.tmod_eq_emod_of_nonneg h0];omega
  have e2:IntKind.u64.wrap (Int.tdiv x 256)=x/256:=by rw[Int.tdiv_eq_ediv_of_nonneg h0,IntWalk.u64_in _ (by omega)]
  have hy:(strOfNums [x%256]).size=1:=by rw[strOfNums_size];rfl
  obtain⟨t,ht,hb⟩:=Qut d k n (i+1) (x/256) (out++strOfNums [x%256]) (by omega) hn (by omega) (by omega) (by rw[ByteArray.size_append,hy];omega) (by omega)
  refine⟨t,?_,?_⟩
  ·unfold Qaw.l0
   rw[if_pos (by omega),Option.bind_some,e1,e2,hy,if_pos (by omega),Qoc i (by omega)]
   exact ht
  ·rw[hb,Qnq,bytesOf_nums (by intro y hy';simp at hy';omega)]
   simp[leb]
theorem num1(k n:Nat)(x:Int)(hn:n≤1000)(h0:0≤x)(h1:x<18446744073709551616)(hk:n+1≤k):∃t,Qaw.f k x (n:Int)=some t∧bytesOf t=leb x n:=by
 obtain⟨t,ht,hb⟩:=Qut n k n 0 x (⟨#[]⟩:ByteArray) (by omega) hn h0 h1 (by decide) hk
 exact⟨t,ht,by rw[hb];rfl⟩
theorem text2(k:Nat)(s:ByteArray)(hs:s.size≤70368744177664)(hk:10≤k):∃t,Qbc.f k s=some t∧bytesOf t=vput 9 s.size++bytesOf s∧t.size≤s.size+10:=by
 obtain⟨t,ht,hb⟩:=num2 k (s.size:Int) (by omega) (by omega) hk
 have hl:=Qle 9 (s.size:Int)
 have hts:t.size≤10:=by rw[Qmn,hb];omega
 refine⟨t++s,?_,by rw[Qnq,hb],by rw[ByteArray.size_append];omega⟩
 unfold Qbc.f
 rw[if_pos hs,ht,Option.bind_some,if_pos (by omega)]
theorem Quu(k:Nat)(d:Bool)(s:Int)(key v:ByteArray)(hs0:0≤s)(hs1:s<18446744073709551616)(hk1:key.size≤70368744177664)(hv1:v.size≤70368744177664)(hk:10≤k) :
  ∃t,Qbk.f k d s key v=some t∧bytesOf t=Qng d s key v∧t.size≤key.size+v.size+31:=by
 obtain⟨t1,h1,b1⟩:=num2 k s hs0 hs1 hk
 obtain⟨t2,h2,b2,z2⟩:=text2 k key hk1 hk
 obtain⟨t3,h3,b3,z3⟩:=text2 k v hv1 hk
 have hl:=Qle 9 s
 have hz1:t1.size≤10:=by rw[Qmn,b1];omega
 cases d with
 | true =>
  have hc:(⟨#[3]⟩:ByteArray).size=1:=rfl
  refine⟨((⟨#[3]⟩:ByteArray)++t1)++t2,?_,?_,?_⟩
  ·unfold Qbk.f
   rw[if_pos rfl,h1,Option.bind_some,if_pos (by omega),h2,Option.bind_some,if_pos (by rw[ByteArray.size_append,hc];omega)]
  ·rw[Qnq,Qnq,b1,b2,show bytesOf (⟨#[3]⟩:ByteArray)=[3] from rfl]
   simp[Qng]
  ·rw[ByteArray.size_append,ByteArray.size_append,hc];omega
 | false =>
  have hc:(⟨#[2]⟩:ByteArray).size=1:=rfl
  refine⟨(((⟨#[2]⟩:ByteArray)++t1)++t2)++t3,?_,?_,?_⟩
  ·unfold Qbk.f
   rw[if_neg (by decide),h1,Option.bind_some,if_pos (by omega),h2,Option.bind_some,if_pos (by rw[ByteArray.size_append,hc];omega),h3,Option.bind_some,if_pos (by rw[ByteArray.size_append,ByteArray.size_append,hc];omega)]
  ·rw[Qnq,Qnq,Qnq,b1,b2,b3,show bytesOf (⟨#[2]⟩:ByteArray)=[2] from rfl]
   simp[Qng]
  ·rw[ByteArray.size_append,ByteArray.size_append,ByteArray.size_append,hc];omega
theorem Quv(k:Nat)(s:ByteArray)(hs:s.size≤562949953421312)(hk:2*s.size+200≤k):∃t,Qbt.f k s=some t∧bytesOf t=Qnk (bytesOf s):=by
 have hr:=Qnj 0 (bytesOf s)
 obtain⟨t1,h1,b1⟩:=num1 k 8 (Qma 0 (bytesOf s)) (by omega) hr.1 hr.2 (by omega)
 have hz1:t1.size=8:=by rw[Qmn,b1,Qjl]
 obtain⟨t2,h2,b2⟩:=Qog (s++t1) k qq_18 qq_18
 have hl:=Qnl _ (bytesOf (s++t1)) (Nat.le_refl _)
 have hz2:t2.size≤2*s.size+17:=by
  rw[Qmn t2,b2]
  rw[Qdf,ByteArray.size_append]at hl
  omega
 refine⟨t2++(⟨#[0]⟩:ByteArray),?_,?_⟩
 ·unfold Qbt.f
  rw[Qne 0 s k ⟨by omega,by omega⟩ (by omega) (by omega),Option.bind_some,show(8:Int)=((8:Nat):Int) from rfl,h1,Option.bind_some,if_pos (by omega),h2,Option.bind_some,if_pos (by omega)]
 ·rw[Qnq,b2,Qnq,b1]
  rfl
theorem Quw(k:Nat)(d:Bool)(s:Int)(key v:ByteArray)(hs0:0≤s)(hs1:s<18446744073709551616)(hk1:key.size≤35184372088832)(hv1:v.size≤35184372088832)(hk:2*(key.size+v.size)+300≤k) :
  ∃t,Qbs.f k d s key v=some t∧bytesOf t=Qnk (Qng d s key v):=by
 obtain⟨t1,h1,b1,z1⟩:=Quu k d s key v hs0 hs1 (by omega) (by omega) (by omega)
 obtain⟨t2,h2,b2⟩:=Quv k t1 (by omega) (by omega)
 refine⟨t2,?_,by rw[b2,b1]⟩
 unfold Qbs.f
 rw[h1,Option.bind_some,h2,Option.bind_some]
theorem Qux(k:Nat)(e s n:Int)(he0:0≤e)(he1:e<256)(hs0:0≤s)(hs1:s<4294967296)(hn0:0≤n)(hn1:n<18446744073709551616)(hk:300≤k) :
  ∃t,Qbp.f k e s n=some t∧bytesOf t=Qno e s n:=by
 obtain⟨t1,h1,b1⟩:=num2 k s hs0 (by omega) (by omega)
 obtain⟨t2,h2,b2⟩:=num2 k n hn0 hn1 (by omega)
 have hl1:=Qle 9 s
 have hl2:=Qle 9 n
 have hz1:t1.size≤10:=by rw[Qmn,b1];omega
 have hz2:t2.size≤10:=by rw[Qmn,b2];omega
 have hy:(strOfNums [e]).size=1:=by rw[strOfNums_size];rfl
 have hc:(⟨#[1,2]⟩:ByteArray).size=2:=rfl
 have hbs:bytesOf ((((⟨#[1,2]⟩:ByteArray)++strOfNums [e])++t1)++t2)=[1,2,e]++vput 9 s++vput 9 n:=by
  rw[Qnq,Qnq,Qnq,b1,b2,bytesOf_nums (by intro y hy';simp at hy';omega)]
  rfl
 obtain⟨t3,h3,b3⟩:=Quv k ((((⟨#[1,2]⟩:ByteArray)++strOfNums [e])++t1)++t2) (by rw[ByteArray.size_append,ByteArray.size_append,ByteArray.size_append,hy,hc];omega) (by rw[ByteArray.size_append,ByteArray.size_append,ByteArray.size_append,hy,hc];omega)
 refine⟨t3,?_,by rw[b3,hbs];rfl⟩
 unfold Qbp.f
 rw[Option.bind_some,hy,if_pos (by omega),IntWalk.u64_in s (by omega),h1,Option.bind_some,if_pos (by rw[ByteArray.size_append,hy,hc];omega),h2,Option.bind_some,if_pos (by rw[ByteArray.size_append,ByteArray.size_append,hy,hc];omega),h3,Option.bind_some]
end Go.Proofs.YtnnofopfbeklbaaGreat.CodecP
end
