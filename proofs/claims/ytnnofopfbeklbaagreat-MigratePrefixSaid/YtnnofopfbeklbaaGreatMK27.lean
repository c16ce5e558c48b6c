/- Merged texts. -/
import Derived.Test.YtnnofopfbeklbaaGreatMK22
import Derived.Test.YtnnofopfbeklbaaGreatMK23
import Derived.Test.YtnnofopfbeklbaaGreatMK07
import Derived.Test.YtnnofopfbeklbaaGreatMK24
import Derived.Test.YtnnofopfbeklbaaGreatMK25
import Derived.Test.YtnnofopfbeklbaaGreatMK26
set_option linter.unusedVariables false
set_option linter.unusedSimpArgs false
set_option maxHeartbeats 8000000
set_option maxRecDepth 100000
section
namespace Go.Proofs.YtnnofopfbeklbaaGreat.CodecP
open Go.RowKit Go.Proofs.YtnnofopfbeklbaaGreat.C Go.Proofs.YtnnofopfbeklbaaGreatW.PrintWords Go.Proofs.YtnnofopfbeklbaaGreatW.PrintLast Go.Proofs.YtnnofopfbeklbaaGreatW.PrintMore
theorem toList_iff{a b:ByteArray}:a.toList=b.toList↔bytesOf a=bytesOf b:=by
 refine⟨fun h=>?_,fun h=>by rw[Qwo h]⟩;rw[ByteArray.toList_eq,ByteArray.toList_eq]at h;unfold bytesOf;rw[h]
theorem valR_k{k:Nat}(x:ByteArray)(hx:x.size≤8)(hk:9≤k):Qav.f k x=some (leI (bytesOf x)):=by
 rw[← Qot x hx];exact Qei (g:=fun k=>Qav.f k x) (Qav.mono x) (by omega) (Qnv x (by omega))
theorem thin_r(l:List Int)(hb:Bytes l)(hl:l.length≤4611686018427387904):R32 (Qqm 0 l):=by
 have h:=(Qwf 0 (strOfNums l) (by unfold R32;omega) (by rw[strOfNums_size];exact hl)).2
 rwa [Qwn hb]at h
def pre10(key val:ByteArray):List Int:=leb (key.size:Int) 4++leb (val.size:Int) 4++bytesOf key++bytesOf val
theorem rtext_is(key val:ByteArray)(h1:key.size≤100000000)(h2:val.size≤100000000)(k:Nat)(hk:9≤k) :
  ∃t,Qbs.f k key val=some t∧bytesOf t=pre10 key val++leb (Qqm 0 (pre10 key val)) 4:=by
 obtain⟨a,ha,hba⟩:=num1 k 4 (key.size:Int) (by omega) (by omega) (by omega) (by omega);obtain⟨b,hb,hbb⟩:=num1 k 4 (val.size:Int) (by omega) (by omega) (by omega) (by omega);have sa:a.size=4:=by rw[Qos,hba,Qld]
 have sb:b.size=4:=by rw[Qos,hbb,Qld]
 have hpre:bytesOf (((a++b)++key)++val)=pre10 key val:=by
  unfold pre10;rw[Qwl,Qwl,Qwl,hba,hbb]
 have hz:(((a++b)++key)++val).size=8+key.size+val.size:=by
  simp only[ByteArray.size_append];omega
 have hr:=(Qwf 0 (((a++b)++key)++val) (by unfold R32;omega) (by omega)).2;obtain⟨c,hc,hbc⟩:=num1 k 4 (Qqm 0 (pre10 key val)) (by omega) (by rw[← hpre];exact hr.1) (by rw[← hpre];have:=hr.2;omega) (by omega);have sc:c.size=4:=by rw[Qos,hbc,Qld]
 have hs3:Qay.f 0 (((a++b)++key)++val)=some (Qqm 0 (pre10 key val)):=by
  unfold Qay.f;rw[if_pos ⟨by omega,by omega,by omega⟩,hpre]
 refine⟨(((a++b)++key)++val)++c,?_,by rw[Qwl,hpre,hbc]⟩;unfold Qbs.f;rw[IntWalk.u64_in (key.size:Int) (by omega),IntWalk.u64_in (val.size:Int) (by omega),show(4:Int)=((4:Nat):Int) from rfl,ha,Option.bind_some,hb,Option.bind_some,if_pos (by omega)];rw[if_pos (by simp only[ByteArray.size_append];omega),if_pos (by simp only[ByteArray.size_append];omega),hs3,Option.bind_some];rw[IntWalk.u64_in (Qqm 0 (pre10 key val)) (by rw[← hpre];have:=hr.1;have:=hr.2;omega),hc,Option.bind_some,if_pos (by omega)]
theorem rget_is{s:ByteArray}{i:Nat}(hi:i≤s.size)(hs:s.size≤100000000)(k:Nat)(hk:100≤k) :
  Qbq.f k (s.extract i s.size)=some (match oneL (bytesOf s) i with
   | .ok (p,j)=>(p.f0,p.f1,((j-i:Nat):Int),0)
   | .error (er,_)=>((⟨#[]⟩:ByteArray),(⟨#[]⟩:ByteArray),0,er)):=by
 have hbd:=Qph s i;have hz:(s.extract i s.size).size=s.size-i:=Qpg s i;have hlen:=Qec s;have hB:=Qom s;generalize s.extract i s.size=t at *;generalize bytesOf s=bs at *;obtain⟨k,rfl⟩:∃m,k=m+1:=⟨k-1,by omega⟩;unfold Qbq.f oneL
 by_cases h8:bs.length<i+8
 ·rw[if_pos (by omega),if_pos h8]
 ·rw[if_neg (by omega),if_neg h8,if_pos (by decide),if_pos (by omega)];have x1:(t.extract 0 4).size≤8:=by rw[ByteArray.size_extract];omega
  have x2:(t.extract 4 8).size≤8:=by rw[ByteArray.size_extract];omega
  have v1:bytesOf (t.extract 0 4)=(bs.drop i).take 4:=by rw[Qor,hbd,List.drop_zero]
  have v2:bytesOf (t.extract 4 8)=(bs.drop (i+4)).take 4:=by rw[Qor,hbd,List.drop_drop]
  rw[valR_k _ x1 (by omega),Option.bind_some,if_pos (by decide),if_pos (by omega),valR_k _ x2 (by omega),Option.bind_some,v1,v2];have hk1:=leI_range ((hB.drop i).take 4);have hv1:=leI_range ((hB.drop (i+4)).take 4);rw[List.length_take,List.length_drop,Nat.min_eq_left (by omega)]at hk1 hv1;have lk:leb (leI ((bs.drop i).take 4)) 4=(bs.drop i).take 4:=by
   have:=leb_le ((bs.drop i).take 4) ((hB.drop i).take 4)
   rwa [List.length_take,List.length_drop,Nat.min_eq_left (by omega)]at this
  have lv:leb (leI ((bs.drop (i+4)).take 4)) 4=(bs.drop (i+4)).take 4:=by
   have:=leb_le ((bs.drop (i+4)).take 4) ((hB.drop (i+4)).take 4)
   rwa [List.length_take,List.length_drop,Nat.min_eq_left (by omega)]at this
  generalize leI ((bs.drop i).take 4)=K at *;generalize leI ((bs.drop (i+4)).take 4)=V at *;dsimp only
  by_cases h0:K=0
  ·rw[if_pos h0,if_pos h0]
  rw[if_neg h0,if_neg h0]
  by_cases hK:4096<K
  ·rw[if_pos hK,if_pos (Or.inl hK),Qbq.j0,if_pos rfl]
  rw[if_neg (show ¬K > 4096 from hK)]
  by_cases hV:1048576<V
  ·rw[if_pos (Or.inr hV),Qbq.j0,if_pos (decide_eq_true hV)]
  rw[if_neg (by omega),Qbq.j0,if_neg (by rw[decide_eq_false hV];decide)];obtain⟨w1,w2,w3,w4,w5⟩:wrap64 K=K∧wrap64 (8+K)=8+K∧wrap64 V=V∧wrap64 (8+K+V)=8+K+V∧wrap64 (8+K+V+4)=8+K+V+4:=by
   refine⟨?_,?_,?_,?_,?_⟩<;>(unfold wrap64;omega)
  simp only[w1,w2,w3,w4,w5];clear w1 w2 w3 w4 w5
  by_cases hsh:(bs.length:Int)<((i+8:Nat):Int)+K+V+4
  ·rw[if_pos (by omega),if_pos hsh]
  rw[if_neg (by omega),if_neg hsh,if_pos (by omega),if_pos (by omega),if_pos (by omega),if_pos (by omega),if_pos (by omega)];obtain⟨K,rfl⟩:=Int.eq_ofNat_of_zero_le hk1.1;obtain⟨V,rfl⟩:=Int.eq_ofNat_of_zero_le hv1.1;have q1:((8:Int)+(K:Int)).toNat=8+K:=by omega
  have q2:((8:Int)+(K:Int)+(V:Int)).toNat=8+K+V:=by omega
  have q3:((8:Int)+(K:Int)+(V:Int)+4).toNat=8+K+V+4:=by omega
  rw[q1,q2,q3,Int.toNat_natCast,Int.toNat_natCast];have bk:bytesOf (t.extract 8 (8+K))=(bs.drop (i+8)).take K:=by rw[Qor,hbd,List.drop_drop,Nat.add_sub_cancel_left]
  have bv:bytesOf (t.extract (8+K) (8+K+V))=(bs.drop (i+8+K)).take V:=by rw[Qor,hbd,List.drop_drop,Nat.add_sub_cancel_left,Nat.add_assoc i 8 K]
  have ek:t.extract 8 (8+K)=strOfNums ((bs.drop (i+8)).take K):=Qwo (by rw[bk,Qwn ((hB.drop _).take _)]);have ev:t.extract (8+K) (8+K+V)=strOfNums ((bs.drop (i+8+K)).take V):=Qwo (by rw[bv,Qwn ((hB.drop _).take _)]);rw[ek,ev];have zk:(strOfNums ((bs.drop (i+8)).take K)).size=K:=by rw[strOfNums_size,List.length_take,List.length_drop];omega
  have zv:(strOfNums ((bs.drop (i+8+K)).take V)).size=V:=by rw[strOfNums_size,List.length_take,List.length_drop];omega
  obtain⟨x,hx,hbx⟩:=rtext_is (strOfNums ((bs.drop (i+8)).take K)) (strOfNums ((bs.drop (i+8+K)).take V)) (by omega) (by omega) k (by omega);rw[hx,Option.bind_some,if_pos (by omega),if_pos (by omega)];have hpre:pre10 (strOfNums ((bs.drop (i+8)).take K)) (strOfNums ((bs.drop (i+8+K)).take V))=leb (K:Int) 4++leb (V:Int) 4++bytesOf (strOfNums ((bs.drop (i+8)).take K))++bytesOf (strOfNums ((bs.drop (i+8+K)).take V)):=by
   unfold pre10;rw[zk,zv]
  rw[hpre]at hbx;generalize hPP:leb (K:Int) 4++leb (V:Int) 4++bytesOf (strOfNums ((bs.drop (i+8)).take K))++bytesOf (strOfNums ((bs.drop (i+8+K)).take V))=PP at *;have hPB:Bytes PP:=by
   rw[← hPP];exact(((leb_bytes 4 _).app (leb_bytes 4 _)).app (Qom _)).app (Qom _)
  have hPL:PP.length=8+K+V:=by
   rw[← hPP];simp only[List.length_append,Qld,Qec];omega
  have hfull:(bs.drop i).take (8+K+V+4)=PP++(bs.drop (i+8+K+V)).take 4:=by
   rw[← hPP,lk,lv,Qwn ((hB.drop _).take _),Qwn ((hB.drop _).take _)];have a1:(bs.drop i).take (8+K+V+4)=(bs.drop i).take 4++((bs.drop (i+4)).take 4++((bs.drop (i+8)).take K++((bs.drop (i+8+K)).take V++(bs.drop (i+8+K+V)).take 4))):=by
    rw[show 8+K+V+4=4+(4+(K+(V+4)))by omega,List.take_add,List.drop_drop,List.take_add,List.drop_drop,List.take_add,List.drop_drop,List.take_add,List.drop_drop]
   rw[a1];simp only[List.append_assoc]
  have hcmp:(x.toList=(t.extract 0 (8+K+V+4)).toList)↔Qqm 0 PP=leI ((bs.drop (i+8+K+V)).take 4):=by
   have hr:=thin_r PP hPB (by omega);rw[toList_iff,hbx,Qor,hbd,List.drop_zero,Nat.sub_zero,hfull]
   constructor
   ·intro h;rw[← List.append_cancel_left h,le_leb 4 _ hr.1 (by have:=hr.2;simpa using this)]
   ·intro h;rw[h];have:=leb_le ((bs.drop (i+8+K+V)).take 4) ((hB.drop _).take 4);rw[List.length_take,List.length_drop,Nat.min_eq_left (by omega)]at this;rw[this]
  by_cases hc:Qqm 0 PP=leI ((bs.drop (i+8+K+V)).take 4)
  ·rw[if_pos (hcmp.2 hc),if_pos hc];dsimp only;rw[show((i+8+K+V+4-i:Nat):Int)=8+(K:Int)+(V:Int)+4 by omega]
  ·rw[if_neg (fun h=>hc (hcmp.1 h)),if_neg hc]
abbrev RPr:=S210
def toRP(p:Pr):RPr:=⟨p.f0,p.f1⟩
theorem rall_run{s:ByteArray}(hs:s.size≤100000000):∀(f i k:Nat) (acc:List Pr),i≤s.size→s.size<i+f→acc.length≤i→f+200≤k →
  Qbr.l0 k s (acc.map toRP) (i:Int)=some ((allL (bytesOf s) f i acc).1.map toRP,(allL (bytesOf s) f i acc).2.1,(allL (bytesOf s) f i acc).2.2)
 | 0,i,k,acc,hi,hf,ha,hk=>by omega
 | f+1,i,k,acc,hi,hf,ha,hk=>by
  obtain⟨k,rfl⟩:∃m,k=m+1:=⟨k-1,by omega⟩;unfold Qbr.l0 allL;rw[Qec]
  by_cases hlt:i<s.size
  ·rw[if_pos (by omega),if_pos (by omega),if_pos (by omega),if_pos hlt,Int.toNat_natCast,rget_is hi hs k (by omega),Option.bind_some]
   cases h1:oneL (bytesOf s) i with
   | error q =>
    obtain⟨er,a⟩:=q;dsimp only;have:=one_er h1;rw[if_neg (by omega)]
   | ok q =>
    obtain⟨p,j⟩:=q;obtain⟨h2,h3,h4⟩:=one_ok (Qom s) h1;have hsz:12≤szP p:=by unfold szP;omega
    rw[Qec]at h4;dsimp only;rw[if_pos rfl,if_pos (by rw[List.length_map];omega),show wrap64 ((i:Int)+((j-i:Nat):Int))=(j:Int)by unfold wrap64;omega];have e:acc.map toRP++[(⟨p.f0,p.f1⟩:RPr)]=(acc++[p]).map toRP:=by simp[toRP]
    rw[e];exact rall_run hs f j k (acc++[p]) h4 (by omega) (by rw[List.length_append];simp only[List.length_singleton];omega) (by omega)
  ·rw[if_neg (by omega),if_neg hlt]
theorem rall_is{l:List Int}(hb:Bytes l)(hl:l.length≤100000000)(k:Nat)(hk:l.length+300≤k) :
  Qbr.f k (strOfNums l)=some ((allL l (l.length+1) 0 []).1.map toRP,(allL l (l.length+1) 0 []).2.1,(allL l (l.length+1) 0 []).2.2):=by
 have h:=rall_run (s:=strOfNums l) (by rw[strOfNums_size];exact hl) (l.length+1) 0 k [] (Nat.zero_le _) (by rw[strOfNums_size];omega) (by simp) (by omega);rw[Qwn hb]at h;exact h
theorem rdRP(l:List Pr)(i:Nat)(h:i<l.length):Qlc (l.map toRP) (i:Int)=toRP l[i]:=by simp[Qlc,List.getElem?_eq_getElem h]
theorem rrecs_run(ps:List Pr)(hl:ps.length≤1000000):∀(d i k:Nat),i+d=ps.length→d+1≤k→Qcm.l0 k (recsL 1 (ps.take i)) (i:Int) (ps.map toRP) (ps.length:Int) (i:Int)=some (recsL 1 ps)
 | 0,i,k,h,hk=>by
  obtain⟨k,rfl⟩:∃m,k=m+1:=⟨k-1,by omega⟩;unfold Qcm.l0;rw[if_neg (by omega),List.take_of_length_le (by omega)]
 | d+1,i,k,h,hk=>by
  obtain⟨k,rfl⟩:∃m,k=m+1:=⟨k-1,by omega⟩;unfold Qcm.l0;have hi:i<ps.length:=by omega
  have hlen:(recsL 1 (ps.take i)).length=i:=by rw[recsL_length,List.length_take];omega
  rw[List.length_map,if_pos (by omega),if_pos (by omega),if_pos (by omega),if_pos (by rw[hlen];omega),rdRP ps i hi,show wrap64 ((i:Int)+1)=((i+1:Nat):Int)by unfold wrap64;omega,IntWalk.u64_in ((i:Int)+1) (by omega)];have e:recsL 1 (ps.take i)++[(⟨false,(i:Int)+1,(toRP ps[i]).f0,(toRP ps[i]).f1⟩:Rec)]=recsL 1 (ps.take (i+1)):=by
   rw[List.take_succ_eq_append_getElem hi,recsL_snoc,List.length_take,Nat.min_eq_left (by omega)];rw[show((1+i:Nat):Int)=(i:Int)+1 by omega];rfl
  rw[e,show(i:Int)+1=((i+1:Nat):Int)by omega];exact rrecs_run ps hl d (i+1) k (by omega) (by omega)
theorem rrecs_is(ps:List Pr)(k:Nat)(hl:ps.length≤1000000)(hk:ps.length+1≤k):Qcm.f k (ps.map toRP)=some (recsL 1 ps):=by
 unfold Qcm.f;rw[List.length_map];exact rrecs_run ps hl ps.length 0 k (by omega) (by omega)
theorem one_take{bs:List Int}(hb:Bytes bs){i j J:Nat}{p:Pr}(h:oneL bs i=.ok (p,j))(hJ:j≤J)(hl:J≤bs.length):oneL (bs.take J) i=.ok (p,j):=by
 obtain⟨h1,h2,h3⟩:=one_ok hb h;have hsz:szP p=p.f0.size+p.f1.size+12:=rfl;have hmid:∀a n,a+n≤J→((bs.take J).drop a).take n=(bs.drop a).take n:=by
  intro a n han;rw[List.drop_take,List.take_take,Nat.min_eq_left (by omega)]
 have hlen:(bs.take J).length=J:=by rw[List.length_take];omega
 unfold oneL at h ⊢;rw[hlen];have hk:=leI_range ((hb.drop i).take 4);have hv:=leI_range ((hb.drop (i+4)).take 4);rw[hmid i 4 (by omega),hmid (i+4) 4 (by omega)];generalize leI ((bs.drop i).take 4)=k at *;generalize leI ((bs.drop (i+4)).take 4)=v at *;dsimp only at h ⊢;split at h
 ·cases h
 rename_i c1;rw[if_neg (by omega)];split at h
 ·cases h
 rename_i c2;rw[if_neg c2];split at h
 ·cases h
 rename_i c3;rw[if_neg c3];split at h
 ·cases h
 rename_i c4;split at h
 ·rename_i c5;simp only[Except.ok.injEq,Prod.mk.injEq]at h;obtain⟨e1,e2⟩:=h;rw[if_neg (by omega),hmid (i+8) k.toNat (by omega),hmid (i+8+k.toNat) v.toNat (by omega),hmid (i+8+k.toNat+v.toNat) 4 (by omega),if_pos c5,e1,e2]
 ·cases h
theorem all_take{bs:List Int}(hb:Bytes bs)(J:Nat)(hJ:J≤bs.length):∀(f f' i:Nat) (acc ps:List Pr) (er:Int),i≤bs.length→allL bs f i acc=(ps,(J:Int),er)→bs.length<i+f→J<i+f'→allL (bs.take J) f' i acc=(ps,(J:Int),0)
 | 0,f',i,acc,ps,er,hi,h,hf,hf'=>by omega
 | f+1,f',i,acc,ps,er,hi,h,hf,hf'=>by
  have hlen:(bs.take J).length=J:=by rw[List.length_take];omega
  obtain⟨more,e1,e2,e3,e4,e5,e6⟩:=all_spec hb (f+1) i acc ps (J:Int) er hi h hf;have hiJ:i≤J:=by omega
  obtain⟨f'',rfl⟩:∃m,f'=m+1:=⟨f'-1,by omega⟩;unfold allL at h ⊢;rw[hlen]
  by_cases hlt:i<bs.length
  ·rw[if_pos hlt]at h
   cases h1:oneL bs i with
   | error q =>
    obtain⟨er1,a⟩:=q;rw[h1]at h;simp only[Prod.mk.injEq]at h;obtain⟨rfl,hj,_⟩:=h;have hj:i=J:=by omega
    rw[if_neg (by omega),hj]
   | ok q =>
    obtain⟨p,j⟩:=q;rw[h1]at h;obtain⟨h2,h3,h4⟩:=one_ok hb h1;have hsz:12≤szP p:=by unfold szP;omega
    dsimp only at h;obtain⟨more2,_,g2,_,_,_,_⟩:=all_spec hb f j (acc++[p]) ps (J:Int) er h4 h (by omega);rw[if_pos (by omega),one_take hb h1 (by omega) hJ];exact all_take hb J hJ f f'' j (acc++[p]) ps er h4 h (by omega) (by omega)
  ·rw[if_neg hlt]at h;simp only[Prod.mk.injEq]at h;obtain⟨rfl,hj,_⟩:=h;rw[if_neg (by omega),hj]
abbrev REnt:=S122
def toR(x:Ent):REnt:=⟨x.f0,x.f1⟩
def ltR(x y:REnt):Bool:=decide (x.f0<y.f0) ||(decide (x.f0=y.f0) && decide (x.f1<y.f1))
def insR(x:REnt):List REnt→List REnt
 | []=>[x]
 | y :: t=>if ltR x y=true then x :: y :: t else y :: insR x t
theorem rdRE(l:List REnt)(i:Nat)(h:i<l.length):Qkv l (i:Int)=l[i]:=by simp[Qkv,List.getElem?_eq_getElem h]
theorem less_is(a b:REnt):Qbw.f a.f0 a.f1 b.f0 b.f1=some (ltR a b):=by
 unfold Qbw.f ltR
 by_cases h1:a.f0<b.f0
 ·simp[h1]
 ·by_cases h2:a.f0=b.f0
  ·simp[h1,h2]
  ·simp[h1,h2]
theorem put_run(x:REnt)(l:List REnt)(hl:l.length≤1000000)(hx:x∉l):∀(d i k:Nat) (out:List REnt) (b:Bool),i+d=l.length→out.length≤i+b.toNat→d+2≤k →
  Qbt.l0 k out b l (l.length:Int) (i:Int) x.f0 x.f1=some (out++(if b=true then l.drop i else insR x (l.drop i))):=by
 intro d
 induction d with
 | zero =>
  intro i k out b hd ho hk;obtain⟨k,rfl⟩:∃m,k=m+1:=⟨k-1,by omega⟩;rw[Qbt.l0,if_neg (by omega),List.drop_of_length_le (by omega)]
  cases b with
  | true=>simp
  | false =>
   have ho':out.length≤i:=ho;rw[if_neg (by simp),if_pos (by omega)];simp[insR]
 | succ d ihd =>
  intro i k out b hd ho hk;obtain⟨k,rfl⟩:∃m,k=m+1:=⟨k-1,by omega⟩;have hi:i<l.length:=by omega
  have hne:l[i]≠x:=fun e=>hx (e ▸ List.getElem_mem hi)
  have hcmp:(l[i].f0 == x.f0 && l[i].f1 == x.f1)=false:=by
   cases h:(l[i].f0 == x.f0 && l[i].f1 == x.f1)with
   | false=>rfl
   | true =>
    exfalso
    simp only[Bool.and_eq_true,beq_iff_eq]at h;refine hne ?_;generalize l[i]=y at *
    cases y;cases x;simp_all
  have heta:(⟨l[i].f0,l[i].f1⟩:REnt)=l[i]:=rfl;rw[Qbt.l0,if_pos (by omega),if_pos (by omega),if_pos (by omega),rdRE l i hi,hcmp,if_neg (by simp),Qwz i (by omega),heta,List.drop_eq_getElem_cons hi]
  cases b with
  | true =>
   have ho':out.length≤i+1:=ho;rw[if_pos rfl,if_pos (by omega),ihd (i+1) k (out++[l[i]]) true (by omega) (by rw[List.length_append];simp;omega) (by omega)];simp
  | false =>
   have ho':out.length≤i:=ho;rw[if_neg (by simp),less_is x l[i],Option.bind_some]
   by_cases hlt:ltR x l[i]=true
   ·rw[if_pos hlt,if_pos (by omega),Option.bind_some,if_pos (by rw[List.length_append];simp;omega)];have ih:=ihd (i+1) k (out++[x]++[l[i]]) true (by omega) (by rw[List.length_append,List.length_append];simp;omega) (by omega);rw[ih];simp[insR,hlt]
   ·rw[if_neg hlt,if_pos (by omega),ihd (i+1) k (out++[l[i]]) false (by omega) (by rw[List.length_append];simp;omega) (by omega)];simp[insR,hlt]
theorem insR_mem(x y:REnt):∀(l:List REnt),y∈insR x l↔y=x∨y∈l
 | []=>by simp[insR]
 | z :: t=>by
  unfold insR;split
  ·simp
  ·rw[List.mem_cons,insR_mem x y t,List.mem_cons]
   constructor
   ·rintro(h|h|h)
    ·exact .inr (.inl h)
    ·exact .inl h
    ·exact .inr (.inr h)
   ·rintro(h|h|h)
    ·exact .inr (.inl h)
    ·exact .inl h
    ·exact .inr (.inr h)
theorem insR_length(x:REnt):∀(l:List REnt),(insR x l).length=l.length+1
 | []=>rfl
 | z :: t=>by
  unfold insR;split
  ·simp
  ·rw[List.length_cons,insR_length x t,List.length_cons]
theorem ltR_trans{a b c:REnt}(h1:ltR a b=true)(h2:ltR b c=true):ltR a c=true:=by
 unfold ltR at *;simp at *;omega
theorem ltR_tri{a b:REnt}(h:ltR a b=false)(hne:a≠b):ltR b a=true:=by
 unfold ltR at *;simp at *;have:a.f0≠b.f0∨a.f1≠b.f1:=by
  by_cases h0:a.f0=b.f0
  ·by_cases h1:a.f1=b.f1
   ·exfalso
    refine hne ?_
    cases a;cases b;simp_all
   ·exact .inr h1
  ·exact .inl h0
 omega
theorem ltR_irrefl(a:REnt):ltR a a=false:=by
 unfold ltR;simp
theorem insR_sorted(x:REnt):∀(l:List REnt),x∉l→l.Pairwise (fun a b=>ltR a b=true)→(insR x l).Pairwise (fun a b=>ltR a b=true)
 | [],_,_=>by simp[insR]
 | z :: t,hx,hp=>by
  have hp2:=List.pairwise_cons.1 hp;unfold insR;split
  ·rename_i h;refine List.pairwise_cons.2 ⟨?_,hp⟩;intro y hy
   rcases List.mem_cons.1 hy with rfl|hy
   ·exact h
   ·exact ltR_trans h (hp2.1 y hy)
  ·rename_i h;refine List.pairwise_cons.2 ⟨?_,insR_sorted x t (fun h'=>hx (List.mem_cons_of_mem _ h')) hp2.2⟩;intro y hy
   rcases(insR_mem x y t).1 hy with rfl|hy
   ·exact ltR_tri (by simpa using h) (fun e=>hx (e ▸ List.mem_cons_self))
   ·exact hp2.1 y hy
theorem rising_uniq:∀(a b:List REnt),a.Pairwise (fun x y=>ltR x y=true)→b.Pairwise (fun x y=>ltR x y=true)→(∀x,x∈a↔x∈b)→a=b
 | [],[],_,_,_=>rfl
 | [],y :: b,_,_,h=>absurd ((h y).2 List.mem_cons_self) (by simp)
 | x :: a,[],_,_,h=>absurd ((h x).1 List.mem_cons_self) (by simp)
 | x :: a,y :: b,ha,hb,h=>by
  have ha2:=List.pairwise_cons.1 ha;have hb2:=List.pairwise_cons.1 hb;have hxy:x=y:=by
   rcases List.mem_cons.1 ((h x).1 List.mem_cons_self)with e|h1
   ·exact e
   ·rcases List.mem_cons.1 ((h y).2 List.mem_cons_self)with e|h2
    ·exact e.symm
    ·have h3:=ltR_trans (hb2.1 x h1) (ha2.1 y h2);rw[ltR_irrefl]at h3
     cases h3
  subst hxy;have hxa:x∉a:=fun hm=>by have:=ha2.1 x hm;rw[ltR_irrefl]at this;cases this
  have hxb:x∉b:=fun hm=>by have:=hb2.1 x hm;rw[ltR_irrefl]at this;cases this
  rw[rising_uniq a b ha2.2 hb2.2 (fun z=>by
   constructor
   ·intro hz
    rcases List.mem_cons.1 ((h z).1 (List.mem_cons_of_mem _ hz))with rfl|h1
    ·exact absurd hz hxa
    ·exact h1
   ·intro hz
    rcases List.mem_cons.1 ((h z).2 (List.mem_cons_of_mem _ hz))with rfl|h1
    ·exact absurd hz hxb
    ·exact h1)]
theorem sorted_run(l:List REnt)(hl:l.length≤1000000)(hn:l.Nodup):∀(d i k:Nat) (acc:List REnt),i+d=l.length→acc.length=i→(∀x,x∈acc↔x∈l.take i)→acc.Pairwise (fun a b=>ltR a b=true)→d+l.length+5≤k →
  ∃r,Qbu.l0 k acc l (l.length:Int) (i:Int)=some r∧(∀x,x∈r↔x∈l)∧r.Pairwise (fun a b=>ltR a b=true):=by
 intro d
 induction d with
 | zero =>
  intro i k acc hd ha hm hp hk;obtain⟨k,rfl⟩:∃m,k=m+1:=⟨k-1,by omega⟩;refine⟨acc,?_,?_,hp⟩
  ·rw[Qbu.l0,if_neg (by omega)]
  ·rw[List.take_of_length_le (by omega)]at hm;exact hm
 | succ d ihd =>
  intro i k acc hd ha hm hp hk;obtain⟨k,rfl⟩:∃m,k=m+1:=⟨k-1,by omega⟩;have hi:i<l.length:=by omega
  have hna:l[i]∉acc:=by
   intro hc;have h1:=(hm _).1 hc;obtain⟨j,hj,he⟩:=List.getElem_of_mem h1;rw[List.length_take]at hj;rw[List.getElem_take]at he;exact List.pairwise_iff_getElem.1 hn j i (by omega) hi (by omega) he
  have hput:=put_run l[i] acc (by omega) hna acc.length 0 k [] false (by omega) (by simp) (by omega);rw[Qbu.l0,if_pos (by omega),if_pos (by omega),if_pos (by omega),rdRE l i hi];have hf:Qbt.f k acc l[i].f0 l[i].f1=some (insR l[i] acc):=by
   unfold Qbt.f;exact hput
  rw[hf,Option.bind_some,Qwz i (by omega)];refine ihd (i+1) k _ (by omega) (by rw[insR_length,ha]) ?_ (insR_sorted _ _ hna hp) (by omega);intro x;rw[insR_mem,hm,List.take_succ_eq_append_getElem hi,List.mem_append,List.mem_singleton];exact Or.comm
theorem toR_inj{a b:Ent}(h:toR a=toR b):a=b:=by
 cases a;cases b
 unfold toR at h;simp at h;simp[h]
theorem ltR_toR(a b:Ent):ltR (toR a) (toR b)=ltOf cfE a b:=(Qtd a b).symm
theorem map_nodup{l:List Ent}(h:l.Nodup):(l.map toR).Nodup:=by
 rw[List.Nodup,List.pairwise_map];exact h.imp (fun hab he=>hab (toR_inj he))
theorem sortE_strict{l:List Ent}(h:l.Nodup):((Qtb l).map toR).Pairwise (fun a b=>ltR a b=true):=by
 rw[List.pairwise_map];have h1:=sortE_pair l;have h2:(Qtb l).Nodup:=(Qtl l).nodup_iff.2 h;refine(List.pairwise_and_iff.2 ⟨h1,h2⟩).imp ?_;intro a b hab;rw[ltR_toR]
 cases hq:ltOf cfE a b with
 | true=>rfl
 | false=>exact absurd (totE a b hq (by simpa using hab.1)) hab.2
theorem sort_ref(l:List Ent)(k:Nat)(hl:l.length≤1000000)(hn:l.Nodup)(hk:2*l.length+5≤k):Qbu.f k (l.map toR)=some ((Qtb l).map toR):=by
 obtain⟨r,h1,h2,h3⟩:=sorted_run (l.map toR) (by rw[List.length_map];exact hl) (map_nodup hn) l.length 0 k [] (by rw[List.length_map];omega) rfl (by simp) (by simp) (by rw[List.length_map];omega);unfold Qbu.f;have h4:r=(Qtb l).map toR:=rising_uniq _ _ h3 (sortE_strict hn) (fun x=>by
  rw[h2,List.mem_map,List.mem_map]
  constructor
  ·rintro⟨y,hy,e⟩;exact⟨y,(Qtl l).mem_iff.2 hy,e⟩
  ·rintro⟨y,hy,e⟩;exact⟨y,(Qtl l).mem_iff.1 hy,e⟩)
 rw[← h4];exact h1
def entR(x:REnt):List Int:=leb x.f0 8++leb x.f1 4
def wfR(x:REnt):Prop:=(0≤x.f0∧x.f0<18446744073709551616)∧0≤x.f1∧x.f1<4294967296
theorem text_run(l:List REnt)(hl:l.length≤1000000)(hw:∀x∈l,wfR x):∀(d i k:Nat) (out:ByteArray),i+d=l.length→out.size≤12*i→d+20≤k →
  ∃t,Qbv.l0 k out l (l.length:Int) (i:Int)=some t∧bytesOf t=bytesOf out++(l.drop i).flatMap entR:=by
 intro d
 induction d with
 | zero =>
  intro i k out hd ho hk;obtain⟨k,rfl⟩:∃m,k=m+1:=⟨k-1,by omega⟩;refine⟨out,?_,?_⟩
  ·rw[Qbv.l0,if_neg (by omega)]
  ·rw[List.drop_of_length_le (by omega)];simp
 | succ d ihd =>
  intro i k out hd ho hk;obtain⟨k,rfl⟩:∃m,k=m+1:=⟨k-1,by omega⟩;have hi:i<l.length:=by omega
  obtain⟨h1,h2⟩:=hw l[i] (List.getElem_mem hi);obtain⟨t1,e1,b1⟩:=num1 k 8 l[i].f0 (by omega) h1.1 h1.2 (by omega);obtain⟨t2,e2,b2⟩:=num1 k 4 l[i].f1 (by omega) h2.1 (by omega) (by omega);have z1:t1.size=8:=by rw[Qos,b1,Qld]
  have z2:t2.size=4:=by rw[Qos,b2,Qld]
  obtain⟨t,e3,b3⟩:=ihd (i+1) k ((out++t1)++t2) (by omega) (by rw[ByteArray.size_append,ByteArray.size_append];omega) (by omega);refine⟨t,?_,?_⟩
  ·rw[Qbv.l0,if_pos (by omega),if_pos (by omega),if_pos (by omega),rdRE l i hi,show(8:Int)=((8:Nat):Int) from rfl,e1,Option.bind_some,if_pos (by omega),IntWalk.u64_in _ (by omega),show(4:Int)=((4:Nat):Int) from rfl,e2,Option.bind_some,if_pos qq_24,Qwz i (by omega)];exact e3
  ·rw[b3,Qwl,Qwl,b1,b2,List.drop_eq_getElem_cons hi,List.flatMap_cons];simp[entR]
theorem ftext_run(l:List Int)(hl:l.length≤1000000)(hw:∀x∈l,0≤x∧x<18446744073709551616):∀(d i k:Nat) (out:ByteArray),i+d=l.length→out.size≤8*i→d+20≤k →
  ∃t,Qby.l0 k out l (l.length:Int) (i:Int)=some t∧bytesOf t=bytesOf out++(l.drop i).flatMap (fun x=>leb x 8):=by
 intro d
 induction d with
 | zero =>
  intro i k out hd ho hk;obtain⟨k,rfl⟩:∃m,k=m+1:=⟨k-1,by omega⟩;refine⟨out,?_,?_⟩
  ·rw[Qby.l0,if_neg (by omega)]
  ·rw[List.drop_of_length_le (by omega)];simp
 | succ d ihd =>
  intro i k out hd ho hk;obtain⟨k,rfl⟩:∃m,k=m+1:=⟨k-1,by omega⟩;have hi:i<l.length:=by omega
  obtain⟨h1,h2⟩:=hw l[i] (List.getElem_mem hi);obtain⟨t1,e1,b1⟩:=num1 k 8 l[i] (by omega) h1 h2 (by omega);have z1:t1.size=8:=by rw[Qos,b1,Qld]
  obtain⟨t,e3,b3⟩:=ihd (i+1) k (out++t1) (by omega) qq_24 (by omega);refine⟨t,?_,?_⟩
  ·rw[Qby.l0,if_pos (by omega),if_pos (by omega),if_pos (by omega),Qoo hi,show(8:Int)=((8:Nat):Int) from rfl,e1,Option.bind_some,if_pos (by omega),Qwz i (by omega)];exact e3
  ·rw[b3,Qwl,b1,List.drop_eq_getElem_cons hi,List.flatMap_cons];simp
def fenR(l:List REnt)(m:Nat):List Int:=(List.range m).map (fun j=>(Qkv l ((j*16:Nat):Int)).f0)
theorem of_run(l:List REnt)(hl:l.length≤1000000):∀(d i k:Nat),i+d=l.length→d+2≤k →
  Qbx.l0 k (fenR l ((i+15)/16)) l (l.length:Int) (i:Int)=some (fenR l ((l.length+15)/16)):=by
 intro d
 induction d with
 | zero =>
  intro i k hd hk;obtain⟨k,rfl⟩:∃m,k=m+1:=⟨k-1,by omega⟩;rw[Qbx.l0,if_neg (by omega),show i=l.length by omega]
 | succ d ihd =>
  intro i k hd hk;obtain⟨k,rfl⟩:∃m,k=m+1:=⟨k-1,by omega⟩;have hi:i<l.length:=by omega
  have htm:Int.tmod (i:Int) 16=((i%16:Nat):Int):=by rw[Int.tmod_eq_emod_of_nonneg (by omega)];rfl
  have ih:=ihd (i+1) k (by omega) (by omega);rw[Qbx.l0,if_pos (by omega),if_pos (by omega),if_pos (by omega),htm,Qwz i (by omega)]
  by_cases h0:i%16=0
  ·rw[if_pos (by omega),if_pos (by simp[fenR];omega)];have hs:(i+1+15)/16=(i+15)/16+1:=by omega
   rw[hs]at ih;have hf:fenR l ((i+15)/16+1)=fenR l ((i+15)/16)++[(Qkv l (i:Int)).f0]:=by
    unfold fenR;rw[List.range_succ,List.map_append];simp only[List.map_cons,List.map_nil];rw[show(i+15)/16*16=i by omega]
   rw[hf]at ih;exact ih
  ·rw[if_neg (by omega)];have hs:(i+1+15)/16=(i+15)/16:=by omega
   rw[hs]at ih;exact ih
theorem fen_is(l:List Ent):fenR (l.map toR) ((l.length+15)/16)=Qrz l:=by
 unfold fenR Qrz chN;refine List.map_congr_left fun j hj=>?_
 rw[List.mem_range]at hj;have h1:j*16<l.length:=by omega
 unfold Qry;rw[rdRE _ _ (by rw[List.length_map];exact h1),rdE l _ h1,List.getElem_map];rfl
theorem ent_is:∀(l:List Ent),(l.map toR).flatMap entR=l.flatMap ent
 | []=>rfl
 | x :: t=>by rw[List.map_cons,List.flatMap_cons,List.flatMap_cons,ent_is t];rfl
theorem wf_fence(l:List Ent)(hw:∀x∈l,wfE x):∀x∈Qrz l,0≤x∧x<18446744073709551616:=by
 intro x hx;unfold Qrz chN at hx;obtain⟨j,hj,rfl⟩:=List.mem_map.1 hx;rw[List.mem_range]at hj;have h1:j*16<l.length:=by omega
 unfold Qry;rw[rdE l _ h1];exact(hw _ (List.getElem_mem h1)).1
theorem foot_ref(used:Int)(l:List Ent)(k:Nat)(h0:0≤used)(h1:used<4294967296)(hl:l.length≤1000000)(hw:∀x∈l,wfE x)(hk:50*l.length+2000≤k) :
  ∃t,Qca.f k used (l.map toR)=some t∧bytesOf t=Qtw used l:=by
 obtain⟨t1,e1,b1⟩:=num1 k 4 (l.length:Int) (by omega) (by omega) (by omega) (by omega);obtain⟨t2,e2,b2⟩:=num1 k 4 used (by omega) (by omega) (by omega) (by omega);obtain⟨t3,e3,b3⟩:=text_run (l.map toR) (by rw[List.length_map];exact hl) (fun x hx=>by
  obtain⟨y,hy,rfl⟩:=List.mem_map.1 hx;exact hw y hy) l.length 0 k (⟨#[]⟩:ByteArray) (by rw[List.length_map];omega) (by decide) (by omega)
 have hof:=of_run (l.map toR) (by rw[List.length_map];exact hl) l.length 0 k (by rw[List.length_map];omega) (by omega);have hfl:=fence_len l;obtain⟨t4,e4,b4⟩:=ftext_run (Qrz l) (by omega) (wf_fence l hw) (Qrz l).length 0 k (⟨#[]⟩:ByteArray) (by omega) (by decide) (by omega);have z1:t1.size=4:=by rw[Qos,b1,Qld]
 have z2:t2.size=4:=by rw[Qos,b2,Qld]
 have b3':bytesOf t3=l.flatMap ent:=by rw[b3,List.drop_zero,ent_is];rfl
 have b4':bytesOf t4=(Qrz l).flatMap (fun x=>leb x 8):=by rw[b4,List.drop_zero];rfl
 have hp:=Qub (l.length:Int) used l;rw[List.nil_append]at hp;have hb:bytesOf ((((((⟨#[4]⟩:ByteArray)++t1)++t2)++t3)++t4))=[4]++leb l.length 4++leb used 4++l.flatMap ent++(Qrz l).flatMap (fun x=>leb x 8):=by
  rw[Qwl,Qwl,Qwl,Qwl,b1,b2,b3',b4'];rfl
 have hsz:(((((⟨#[4]⟩:ByteArray)++t1)++t2)++t3)++t4).size=9+12*l.length+8*(Qrz l).length:=by
  rw[Qos,hb];exact hp
 obtain⟨t,e5,b5⟩:=Qxi k ((((((⟨#[4]⟩:ByteArray)++t1)++t2)++t3)++t4)) (by omega) (by omega);refine⟨t,?_,by rw[b5,hb];rfl⟩;have hc:(⟨#[4]⟩:ByteArray).size=1:=rfl;have hs4:(((((⟨#[4]⟩:ByteArray)++t1)++t2)++t3)++t4).size=1+t1.size+t2.size+t3.size+t4.size:=by
  rw[ByteArray.size_append,ByteArray.size_append,ByteArray.size_append,ByteArray.size_append,hc]
 have hT:Qbv.f k (l.map toR)=some t3:=e3;have hO:Qbx.f k (l.map toR)=some (Qrz l):=by
  rw[← fen_is];have:fenR (l.map toR) ((0+15)/16)=[]:=rfl;rw[this,List.length_map]at hof;unfold Qbx.f;rw[List.length_map];exact hof
 have hF:Qby.f k (Qrz l)=some t4:=e4;unfold Qca.f;rw[List.length_map,IntWalk.u64_in _ (by omega),show(4:Int)=((4:Nat):Int) from rfl,e1,Option.bind_some,if_pos (by omega),IntWalk.u64_in _ (by omega),e2,Option.bind_some,if_pos qq_24,hT,Option.bind_some,if_pos (by rw[ByteArray.size_append,ByteArray.size_append];omega),hO,Option.bind_some,hF,Option.bind_some,if_pos (by rw[ByteArray.size_append,ByteArray.size_append,ByteArray.size_append];omega),e5,Option.bind_some]
theorem wrap_small{x:Int}(h0:0≤x)(h1:x≤4611686018427387903):wrap64 x=x:=by unfold wrap64;omega
theorem erased_run:∀(d i k:Nat) (n:Nat),i+d=n→n≤1000000000→d+1≤k →
  Qcf.l0 k (List.replicate i 255++List.replicate d 0) (n:Int) (i:Int)=some (strOfNums (List.replicate n 255)):=by
 intro d
 induction d with
 | zero =>
  intro i k n hd hn hk;obtain⟨k,rfl⟩:∃m,k=m+1:=⟨k-1,by omega⟩;rw[Qcf.l0,if_neg (by omega),show i=n by omega];simp
 | succ d ihd =>
  intro i k n hd hn hk;obtain⟨k,rfl⟩:∃m,k=m+1:=⟨k-1,by omega⟩;have ih:=ihd (i+1) k n (by omega) hn (by omega);rw[Qcf.l0,if_pos (by omega),if_pos (by omega),if_pos (by rw[List.length_append,List.length_replicate,List.length_replicate];omega),Qwz i (by omega),Int.toNat_natCast];have hs:(List.replicate i (255:Int)++List.replicate (d+1) 0).set i 255=List.replicate (i+1) 255++List.replicate d 0:=by
   rw[List.set_append_right _ _ (by simp),List.length_replicate,Nat.sub_self,List.replicate_succ,List.set_cons_zero,List.replicate_succ',List.append_assoc];rfl
  rw[hs];exact ih
theorem erased_ref(a:Int)(k:Nat)(h:a≤1000000000)(hk:a.toNat+2≤k):Qcf.f k a=some (strOfNums (List.replicate a.toNat 255)):=by
 have hm:mx 0 a=(a.toNat:Int):=by unfold mx;split<;>omega
 have h1:=erased_run a.toNat 0 k a.toNat (by omega) (by omega) (by omega);unfold Qcf.f;rw[hm,if_pos (by omega),Int.toNat_natCast,if_pos (by omega),Option.bind_some,List.length_replicate]
 simpa using h1
def fillB(e s n:Int):Bd→List Rec→Bd
 | B,[]=>B
 | B,r :: t=>fillB e s n (putB e s n B r) t
theorem frames_run(e s n:Int)(l:List Rec)(hl:l.length≤1000000)(hw:Wf l)(hc:chkL l=0)(K:Nat)(hK:∀r∈l,2*(r.f2.size+r.f3.size)+300≤K):∀(d i k:Nat) (B:Bd) (out:ByteArray),i+d=l.length→bytesOf out=B.2.1→B.2.2.length≤i→out.size≤1000+i*8388608→d+K+1≤k →
  ∃t k',k'+d+1=k∧bytesOf t=(fillB e s n B (l.drop i)).2.1 ∧
   Qcg.l0 k out (B.2.2.map toR) l (l.length:Int) (i:Int)=(Qbu.f k' ((fillB e s n B (l.drop i)).2.2.map toR)).bind fun q=>some (t,q):=by
 intro d
 induction d with
 | zero =>
  intro i k B out hd ho hb hz hk;obtain⟨k,rfl⟩:∃m,k=m+1:=⟨k-1,by omega⟩;refine⟨out,k,by omega,?_,?_⟩
  ·rw[List.drop_of_length_le (by omega)];exact ho
  ·rw[Qcg.l0,if_neg (by omega),List.drop_of_length_le (by omega)];rfl
 | succ d ihd =>
  intro i k B out hd ho hb hz hk;obtain⟨k,rfl⟩:∃m,k=m+1:=⟨k-1,by omega⟩;have hi:i<l.length:=by omega
  have hcr:chkR l[i]=0:=Qyu hc _ (List.getElem_mem hi);have hwr:=hw l[i] (List.getElem_mem hi);have hx:=fsz_range l[i] hcr;have hch:=Qqq hcr;have hkk:=hK l[i] (List.getElem_mem hi);obtain⟨t,e1,b1⟩:=Qxj k l[i].f0 l[i].f1 l[i].f2 l[i].f3 hwr.1 hwr.2 (by omega) (by omega) (by omega);have hts:(t.size:Int)=fsz l[i]:=by rw[Qos,b1];rfl
  have hh:=Qpk 0 l[i].f2 k ⟨by omega,by omega⟩ (by omega) (by omega);have hos:(out.size:Int)=(B.2.1.length:Int):=by rw[Qos,ho]
  obtain⟨r,k',hk',b2,e2⟩:=ihd (i+1) k (putB e s n B l[i]) (out++t) (by omega) (by rw[Qwl,ho,b1];rfl) (by simp[putB];omega) qq_24 (by omega);refine⟨r,k',by omega,?_,?_⟩
  ·rw[b2,List.drop_eq_getElem_cons hi];rfl
  ·rw[Qcg.l0,if_pos (by omega),if_pos (by omega),if_pos (by omega),rdR l i hi,hh,Option.bind_some,if_pos (by rw[List.length_map];omega),e1,Option.bind_some,if_pos (by omega),Qwz i (by omega),List.drop_eq_getElem_cons hi];have hm:(putB e s n B l[i]).2.2.map toR=B.2.2.map toR++[(⟨Qnm 0 (bytesOf l[i].f2),(out.size:Int)%4294967296⟩:REnt)]:=by
    simp only[putB,List.map_append,List.map_cons,List.map_nil];rw[hos];rfl
   rw[hm]at e2;exact e2
def tailB(B:Bd)(b:Bool):List Int:=B.2.1++(if b=true then Qtw (Qud B) (Qtb B.2.2)else [])
theorem seg_ref{e s n:Int}(hG:Good e s)(h0:0≤n)(h1:n<s)(l:List Rec)(b:Bool)(k K:Nat)(hl:l.length≤1000000)(hw:Wf l)(hc:chkL l=0)(hK:∀r∈l,2*(r.f2.size+r.f3.size)+300≤K)
  (hnd:(fillB e s n (freshB e s n) l).2.2.Nodup) (hwe:∀x∈(fillB e s n (freshB e s n) l).2.2,wfE x) (hlen:(fillB e s n (freshB e s n) l).2.2.length≤l.length)
  (hfit:((tailB (fillB e s n (freshB e s n) l) b).length:Int)≤szN e) (hk:K+60*l.length+20000000≤k) :
  ∃t,Qch.f k e s n l b=some t∧bytesOf t=tailB (fillB e s n (freshB e s n) l) b++List.replicate ((szN e).toNat-(tailB (fillB e s n (freshB e s n) l) b).length) 255:=by
 have hsz:=Qxv hG.1 hG.2.1;have hg:=hG;obtain⟨g1,g2,g3,g4⟩:=hg;obtain⟨B,hB⟩:∃B,B=fillB e s n (freshB e s n) l:=⟨_,rfl⟩;rw[← hB]at hnd hwe hlen hfit ⊢;obtain⟨th,e1,b1⟩:=Qxk k e s n (by omega) (by omega) (by omega) (by omega) (by omega) (by omega) (by omega);have hhd:=Qxp e s n;have hth:(th.size:Int)=Qxn e s n:=by rw[Qos,b1];rfl
 obtain⟨t,k',hk',b2,e2⟩:=frames_run e s n l hl hw hc K hK l.length 0 k (freshB e s n) th (by omega) b1 (by simp[freshB]) (by omega) (by omega);rw[List.drop_zero,← hB]at b2 e2;have hso:=sort_ref B.2.2 k' (by omega) hnd (by omega);rw[hso,Option.bind_some]at e2;have hF:Qcg.f k e s n l=some (t,(Qtb B.2.2).map toR):=by
  unfold Qcg.f;rw[e1,Option.bind_some];exact e2
 have hts:t.size=B.2.1.length:=by rw[Qos,b2]
 have hszk:=Qxy hG k (by omega);have hb255:∀m:Nat,bytesOf (strOfNums (List.replicate m 255))=List.replicate m 255:=fun m=>Qwn (fun x hx=>by have:=List.eq_of_mem_replicate hx;omega)
 unfold Qch.f;rw[hF,Option.bind_some];dsimp only
 cases b with
 | true =>
  unfold tailB at hfit ⊢;rw[if_pos rfl]at hfit ⊢;have hu:(t.size:Int)%4294967296=Qud B:=by unfold Qud;rw[hts]
  have hur:0≤Qud B∧Qud B<4294967296:=by unfold Qud;omega
  obtain⟨tf,e3,b3⟩:=foot_ref (Qud B) (Qtb B.2.2) k hur.1 hur.2 (by rw[Qtc];omega) (fun x hx=>hwe x ((Qtl _).mem_iff.1 hx)) (by rw[Qtc];omega);have htf:tf.size=(Qtw (Qud B) (Qtb B.2.2)).length:=by rw[Qos,b3]
  rw[List.length_append]at hfit ⊢;rw[if_pos rfl,hu,e3,Option.bind_some,if_pos (by omega),hszk,Option.bind_some];have hz:(t++tf).size=t.size+tf.size:=ByteArray.size_append;rw[wrap_small (show 0≤szN e by omega) (by omega),wrap_small (show 0≤szN e-((t++tf).size:Int)by omega) (by omega),erased_ref _ k (by omega) (by omega),Option.bind_some];have hr:(szN e-((t++tf).size:Int)).toNat=(szN e).toNat-(B.2.1.length+(Qtw (Qud B) (Qtb B.2.2)).length):=by omega
  rw[hr];have hq:=congrArg List.length (hb255 ((szN e).toNat-(B.2.1.length+(Qtw (Qud B) (Qtb B.2.2)).length)));rw[← Qos,List.length_replicate]at hq;rw[if_pos (by omega)];refine⟨_,rfl,?_⟩;rw[Qwl,Qwl,hb255,b2,b3]
 | false =>
  have ht0:tailB B false=B.2.1:=by simp[tailB]
  rw[ht0]at hfit ⊢;rw[if_neg (by simp),hszk,Option.bind_some];rw[wrap_small (show 0≤szN e by omega) (by omega),wrap_small (show 0≤szN e-(t.size:Int)by omega) (by omega),erased_ref _ k (by omega) (by omega),Option.bind_some];have hr:(szN e-(t.size:Int)).toNat=(szN e).toNat-B.2.1.length:=by omega
  rw[hr];have hq:=congrArg List.length (hb255 ((szN e).toNat-B.2.1.length));rw[← Qos,List.length_replicate]at hq;rw[if_pos (by omega)];refine⟨_,rfl,?_⟩;rw[Qwl,hb255,b2]
def partB(e s n:Int)(g:List Rec):Bd:=fillB e s n (freshB e s n) g
def segB(e s n:Int)(g:List Rec)(b:Bool):List Int:=tailB (partB e s n g) b++List.replicate ((szN e).toNat-(tailB (partB e s n g) b).length) 255
def imgP(e s:Int):Int→List (List Rec)→List Int
 | _,[]=>[]
 | n,[g]=>segB e s n g false
 | n,g :: h :: t=>segB e s n g true++imgP e s (n+1) (h :: t)
def partsS(into:List Int):Nat→List Rec→List Rec→List (List Rec)
 | _,[],cur=>[cur]
 | i,r :: rs,cur=>if rd into (i:Int)=rd into ((i:Int)-1)then partsS into (i+1) rs (cur++[r])else cur :: partsS into (i+1) rs [r]
theorem partsS_ne(into:List Int):∀(rs:List Rec) (i:Nat) (cur:List Rec),∃g t,partsS into i rs cur=g :: t
 | [],i,cur=>⟨cur,[],rfl⟩
 | r :: rs,i,cur=>by
  unfold partsS;split
  ·exact partsS_ne into rs (i+1) _
  ·exact⟨_,_,rfl⟩
theorem partsS_flat(into:List Int):∀(rs:List Rec) (i:Nat) (cur:List Rec),(partsS into i rs cur).flatten=cur++rs
 | [],i,cur=>by simp[partsS]
 | r :: rs,i,cur=>by
  unfold partsS;split
  ·rw[partsS_flat into rs];simp
  ·rw[List.flatten_cons,partsS_flat into rs];simp
theorem fillB_snoc(e s n:Int):∀(g:List Rec) (B:Bd) (r:Rec),fillB e s n B (g++[r])=putB e s n (fillB e s n B g) r
 | [],_,_=>rfl
 | x :: g,B,r=>by
  show fillB e s n (putB e s n B x) (g++[r])=_;rw[fillB_snoc e s n g];rfl
theorem fillB_count(e s n:Int):∀(g:List Rec) (B:Bd),(fillB e s n B g).2.2.length=B.2.2.length+g.length
 | [],B=>by simp[fillB]
 | x :: g,B=>by
  show(fillB e s n (putB e s n B x) g).2.2.length=_;rw[fillB_count e s n g];simp[putB];omega
def GoodG(e s n:Int)(g:List Rec):Prop:=0≤n∧n<s∧okB e s n 1000000 (partB e s n g)∧g≠[]∧((partB e s n g).2.1.length:Int)+Qxr ((partB e s n g).2.2.length:Int)≤szN e
def AllG(e s:Int):Int→List (List Rec)→Prop
 | _,[]=>True
 | n,g :: t=>GoodG e s n g∧AllG e s (n+1) t
def StepsI(into:List Int):Nat→Nat→Int→Prop
 | 0,i,_=>i=into.length
 | d+1,i,n=>i<into.length∧((rd into (i:Int)=n∧StepsI into d (i+1) n)∨(rd into (i:Int)=n+1∧StepsI into d (i+1) (n+1)))
theorem sealB_val{B:Bd}{o:List Int}{sz:Int}(h:Que B=some o)(hs:Qam.f B.1.1 B.1.2.1=some sz):o=tailB B true++List.replicate (sz.toNat-(tailB B true).length) 255:=by
 unfold Que at h;rw[hs,Option.bind_some]at h;split at h
 ·cases h
  rfl
 ·cases h
theorem openB_val{B:Bd}{o:List Int}{sz:Int}(h:Quf B=some o)(hs:Qam.f B.1.1 B.1.2.1=some sz):o=tailB B false++List.replicate (sz.toNat-(tailB B false).length) 255:=by
 unfold Quf at h;rw[hs,Option.bind_some]at h;split at h
 ·cases h
  simp[tailB]
 ·cases h
theorem okB_more{e s n:Int}{i j:Nat}{B:Bd}(h:okB e s n i B)(hij:i≤j):okB e s n j B:=⟨h.1,by have:=h.2.1;omega,h.2.2⟩
theorem part_ne{e s n:Int}{g:List Rec}:(partB e s n g).2.2≠[]↔g≠[]:=by
 have h:=fillB_count e s n g (freshB e s n);have h0:(freshB e s n).2.2.length=0:=rfl;unfold partB;rw[← List.length_pos_iff,← List.length_pos_iff,h,h0];omega
theorem enc_img{e s:Int}(hG:Good e s)(l:List Rec)(into:List Int)(hl:l.length≤1000000)(hw:Wf l)(hc:chkL l=0)(hil:into.length=l.length) :
  ∀(d i:Nat) (out:List Int) (n:Int) (cur:List Rec),i+d=l.length→1≤i→okB e s n i (partB e s n cur)→cur≠[]→((partB e s n cur).2.1.length:Int)+Qxr ((partB e s n cur).2.2.length:Int)≤szN e→0≤n→n<s→out.length=n.toNat*(szN e).toNat→rd into ((i:Int)-1)=n →
  Qym e s ((l.drop i).map fsz) (into.take i) n ((partB e s n cur).2.1.length:Int) ((partB e s n cur).2.2.length:Int)=(into,0) →
  encG e s into i (l.drop i) out (some (partB e s n cur))=some (out++imgP e s n (partsS into i (l.drop i) cur))∧AllG e s n (partsS into i (l.drop i) cur)∧StepsI into d i n:=by
 have hsz:=Qxv hG.1 hG.2.1;have hsize:∀ {m:Int} {i:Nat} {B:Bd},okB e s m i B→Qam.f B.1.1 B.1.2.1=some (szN e):=fun h=>by rw[h.1];exact Qxw hG
 intro d
 induction d with
 | zero =>
  intro i out n cur hd hi hB hne hr h0 h1 ho hprev hp;have hi':i=into.length:=by omega
  have hmm:=Qyb ((partB e s n cur).2.2.length:Int) (by omega) (by have:=hB.2.1;omega);obtain⟨o,e1,e2,t,e3⟩:=open_good hG hB (by omega);have hlim:=room_lim hG h1;have hv:=openB_val e1 (hsize hB);rw[List.drop_of_length_le (by omega)];refine⟨?_,⟨⟨h0,h1,okB_more hB (by omega),hne,hr⟩,trivial⟩,hi'⟩;unfold encG;rw[e1,Option.bind_some,if_pos (by omega),hv];rfl
 | succ d ihd =>
  intro i out n cur hd hi hB hne hr h0 h1 ho hprev hp;have hlt:i<l.length:=by omega
  have hlt2:i<into.length:=by omega
  have hcr:chkR l[i]=0:=Qyu hc _ (List.getElem_mem hlt);have hwr:=hw l[i] (List.getElem_mem hlt);have hx:=fsz_range l[i] hcr;have hlen:∀q:List Int,((q++frameL l[i]).length:Int)=(q.length:Int)+fsz l[i]:=fun q=>by rw[List.length_append];unfold fsz;omega
  have hiB:=hB.2.1;have hb5:=hB.2.2.2.2;have hne2:(partB e s n cur).2.2≠[]:=part_ne.2 hne;rw[List.drop_eq_getElem_cons hlt]at hp ⊢;rw[List.map_cons]at hp;unfold Qym at hp
  by_cases hf:Qyc e (Qxn e s (s-1)) 0 (fsz l[i])=false
  ·rw[if_pos hf]at hp;cases hp
  ·rw [if_neg hf]at hp;have hft:Qyc e (Qxn e s (s-1)) 0 (fsz l[i])=true:=by simpa using hf
   by_cases hq:Qyc e ((partB e s n cur).2.1.length:Int) ((partB e s n cur).2.2.length:Int) (fsz l[i])=true
   ·rw[if_pos hq]at hp;obtain⟨q1,q2⟩:=pre_at qq_17 hlt2;obtain⟨a1,a2,a3,a4⟩:=add_good hG hB (by omega) hcr hwr hft hq;have hpb:putB e s n (partB e s n cur) l[i]=partB e s n (cur++[l[i]]):=(fillB_snoc e s n cur _ _).symm;have hlB:((partB e s n (cur++[l[i]])).2.1.length:Int)=((partB e s n cur).2.1.length:Int)+fsz l[i]:=by rw[← hpb];exact hlen _
    have hlT:((partB e s n (cur++[l[i]])).2.2.length:Int)=((partB e s n cur).2.2.length:Int)+1:=by rw[← hpb];simp[putB]
    rw[hpb]at a1 a2 a3;rw[← q2,← hlB,← hlT]at hp;obtain⟨f1,f2,f3⟩:=ihd (i+1) out n (cur++[l[i]]) (by omega) (by omega) a2 (by simp) a3 h0 h1 ho (by rw[show((i+1:Nat):Int)-1=(i:Int)by omega];exact q1) hp;have hps:partsS into i (l[i] :: l.drop (i+1)) cur=partsS into (i+1) (l.drop (i+1)) (cur++[l[i]]):=by
     rw[partsS,if_pos (q1.trans hprev.symm)]
    rw[hps];refine⟨?_,f2,hlt2,.inl ⟨q1,f3⟩⟩;rw[encG,if_pos hlt2];rw[if_neg (by omega),if_pos (q1.trans hprev.symm),a1,Option.bind_some];exact f1
   ·rw[if_neg hq]at hp
    by_cases hs:n+1<s
    ·rw[if_pos hs]at hp;obtain⟨q1,q2⟩:=pre_at qq_17 hlt2;obtain⟨o,e1,e2,t,e3⟩:=seal_good hG hB (by omega) hne2 hr;have hv:=sealB_val e1 (hsize hB);have hhd:=Qxp e s (n+1);have hfit:Qyc e ((freshB e s (n+1)).2.1.length:Int) ((freshB e s (n+1)).2.2.length:Int) (fsz l[i])=true:=Qyn hG (by omega) (by omega) hft;obtain⟨a1,a2,a3,a4⟩:=add_good hG (Qfr e s (n+1) i) (by omega) hcr hwr hft hfit;have hpb:putB e s (n+1) (freshB e s (n+1)) l[i]=partB e s (n+1) [l[i]]:=rfl;rw[hpb]at a1 a2 a3;have hlB:((partB e s (n+1) [l[i]]).2.1.length:Int)=Qxn e s (n+1)+fsz l[i]:=by rw[← hpb];exact hlen _
     have hlT:((partB e s (n+1) [l[i]]).2.2.length:Int)=1:=by rw[← hpb];simp[putB,freshB]
     rw[← q2,← hlB,← hlT]at hp;have hlim:=room_lim hG h1;have hoo:(out++o).length=(n+1).toNat*(szN e).toNat:=by
      rw[List.length_append,ho,e2,show(n+1).toNat=n.toNat+1 by omega,Nat.add_mul,Nat.one_mul]
     obtain⟨f1,f2,f3⟩:=ihd (i+1) (out++o) (n+1) [l[i]] (by omega) (by omega) a2 (by simp) a3 (by omega) hs hoo (by rw[show((i+1:Nat):Int)-1=(i:Int)by omega];exact q1) hp;have hps:partsS into i (l[i] :: l.drop (i+1)) cur=cur :: partsS into (i+1) (l.drop (i+1)) [l[i]]:=by
      rw[partsS,if_neg (by rw[q1,hprev];omega)]
     rw[hps];refine⟨?_,⟨⟨h0,h1,okB_more hB (by omega),hne,hr⟩,f2⟩,hlt2,.inr ⟨q1,f3⟩⟩;rw[encG,if_pos hlt2];rw[if_neg (by omega),if_neg (by rw[q1,hprev];omega),e1,Option.bind_some,if_pos (by omega),q1,new_good hG (n+1) (by omega) hs,Option.bind_some,a1,Option.bind_some];rw[f1,hv];obtain⟨g2,t2,hgt⟩:=partsS_ne into (l.drop (i+1)) (i+1) [l[i]];rw[hgt];show _=some (out++(segB e s n cur true++imgP e s (n+1) (g2 :: t2)));rw[List.append_assoc];rfl
    ·rw[if_neg hs]at hp;cases hp
def partsOf(into:List Int):List Rec→List (List Rec)
 | []=>[]
 | r :: rs=>partsS into 1 rs [r]
theorem partsOf_flat(into:List Int)(l:List Rec):(partsOf into l).flatten=l:=by
 cases l with
 | nil=>rfl
 | cons r rs=>unfold partsOf;rw[partsS_flat];rfl
theorem enc_parts{e s:Int}(hG:Good e s)(l:List Rec)(into:List Int)(hl:l.length≤1000000)(hw:Wf l)(hc:chkL l=0)(hil:into.length=l.length)
  (hp:Qym e s (l.map fsz) [] 0 (Qxn e s 0) 0=(into,0)) :
  encG e s into 0 l [] none=some (imgP e s 0 (partsOf into l))∧AllG e s 0 (partsOf into l)∧(l≠[]→rd into 0=0∧StepsI into (l.length-1) 1 0):=by
 have hs0:=hG.2.2.1
 cases l with
 | nil=>exact⟨rfl,trivial,fun h=>absurd rfl h⟩
 | cons r t =>
  have hlt2:0<into.length:=by rw[hil];simp
  have hcr:chkR r=0:=Qyu hc _ (by simp);have hwr:=hw r (by simp);have hx:=fsz_range r hcr;have hlen:∀q:List Int,((q++frameL r).length:Int)=(q.length:Int)+fsz r:=fun q=>by rw[List.length_append];unfold fsz;omega
  rw[List.map_cons]at hp;unfold Qym at hp
  by_cases hf:Qyc e (Qxn e s (s-1)) 0 (fsz r)=false
  ·rw[if_pos hf]at hp;cases hp
  ·rw[if_neg hf]at hp;have hft:Qyc e (Qxn e s (s-1)) 0 (fsz r)=true:=by simpa using hf
   have hfit0:=Qyn hG (n:=0) (by omega) (by omega) hft;rw[if_pos hfit0]at hp;obtain⟨q1,q2⟩:=pre_at (i:=0) (x:=0) qq_17 hlt2;have a:rd into 0=0:=q1;have hhd:=Qxp e s 0;obtain⟨a1,a2,a3,a4⟩:=add_good hG (Qfr e s 0 0) (by omega) hcr hwr hft hfit0;have hpb:putB e s 0 (freshB e s 0) r=partB e s 0 [r]:=rfl;rw[hpb]at a1 a2 a3;have hlB:((partB e s 0 [r]).2.1.length:Int)=Qxn e s 0+fsz r:=by rw[← hpb];exact hlen _
   have hlT:((partB e s 0 [r]).2.2.length:Int)=1:=by rw[← hpb];simp[putB,freshB]
   have hp':Qym e s (((r :: t).drop 1).map fsz) (into.take 1) 0 ((partB e s 0 [r]).2.1.length:Int) ((partB e s 0 [r]).2.2.length:Int)=(into,0):=by
    rw[hlB,hlT,q2];exact hp
   obtain⟨f1,f2,f3⟩:=enc_img hG (r :: t) into hl hw hc hil t.length 1 [] 0 [r] qq_23 (by omega) a2 (by simp) a3 (by omega) (by omega) (by simp) a hp';refine⟨?_,f2,fun _=>⟨a,by simpa using f3⟩⟩;rw[encG,if_pos hlt2];rw[if_pos rfl,q1,new_good hG 0 (by omega) (by omega),Option.bind_some,a1,Option.bind_some];exact f1
theorem encode_img(e s:Int)(l:List Rec)(k:Nat)(hl:l.length≤1000000)(hw:Wf l)(hk:2*l.length+10≤k)(h:(planSpec e s l).2.2=0) :
  Good e s∧chkL l=0∧(planS e s l).1.length=l.length∧Qcu.f k e s l=some (imgP e s 0 (partsOf (planS e s l).1 l),0)∧AllG e s 0 (partsOf (planS e s l).1 l)∧(l≠[]→rd (planS e s l).1 0=0∧StepsI (planS e s l).1 (l.length-1) 1 0):=by
 obtain⟨hg,hr,h2,h3,h4,h5⟩:=plan_parts h hl;have hp:=enc_parts hg l (planS e s l).1 hl hw (risL_chk hr) h4 (by
  have:Qym e s (l.map fsz) [] 0 (Qxn e s 0) 0=planS e s l:=rfl;rw[this,← h2])
 refine⟨hg,risL_chk hr,h4,?_,hp.2.1,hp.2.2⟩;unfold Qcu.f;rw[plan_is e s l k hl hw hk,Option.bind_some,if_pos h,if_pos (by omega),h3,hp.1,Option.bind_some]
theorem tail_fit{e s n:Int}(hG:Good e s){g:List Rec}(h:GoodG e s n g)(b:Bool):((tailB (partB e s n g) b).length:Int)≤szN e:=by
 obtain⟨h0,h1,h2,h3,h4⟩:=h;have hfl:=foot_len (Qud (partB e s n g)) (Qtb (partB e s n g).2.2);rw[Qtc]at hfl;have hmm:=Qyb ((partB e s n g).2.2.length:Int) (by omega) (by have:=h2.2.1;omega);unfold tailB;rw[List.length_append]
 cases b with
 | true=>rw[if_pos rfl];omega
 | false=>rw[if_neg (by simp)];simp;omega
theorem seg_len{e s n:Int}(hG:Good e s){g:List Rec}(h:GoodG e s n g)(b:Bool):(segB e s n g b).length=(szN e).toNat:=by
 have h1:=tail_fit hG h b;unfold segB;rw[List.length_append,List.length_replicate];omega
theorem rdL(xs:List (List Rec))(i:Nat)(h:i<xs.length):Qkr xs (i:Int)=xs[i]:=by simp[Qkr,List.getElem?_eq_getElem h]
theorem rdL_last(done:List (List Rec))(cur:List Rec):Qkr (done++[cur]) (done.length:Int)=cur:=by
 rw[rdL _ _ (by simp)];simp
theorem set_last(done:List (List Rec))(cur x:List Rec):(done++[cur]).set (done.length:Int).toNat x=done++[x]:=by
 rw[Int.toNat_natCast,List.set_append_right _ _ (Nat.le_refl _),Nat.sub_self];rfl
theorem parts_run(l:List Rec)(into:List Int)(hl:l.length≤1000000)(hil:into.length=l.length):∀(d i k:Nat) (n:Int) (done:List (List Rec)) (cur:List Rec),i+d=l.length→1≤i→(done.length:Int)=n→done.length≤i→cur.length≤i→rd into ((i:Int)-1)=n→StepsI into d i n→d+1≤k →
  Qcj.l0 k into (done++[cur]) l (l.length:Int) (i:Int)=some (done++partsS into i (l.drop i) cur):=by
 intro d
 induction d with
 | zero =>
  intro i k n done cur hd hi hn hdl hcl hprev hst hk;obtain⟨k,rfl⟩:∃m,k=m+1:=⟨k-1,by omega⟩;rw[Qcj.l0,if_neg (by omega),List.drop_of_length_le (by omega)];rfl
 | succ d ihd =>
  intro i k n done cur hd hi hn hdl hcl hprev hst hk;obtain⟨k,rfl⟩:∃m,k=m+1:=⟨k-1,by omega⟩;have hlt:i<l.length:=by omega
  obtain⟨h1,h2⟩:=hst;have hp1:rd into (((i+1:Nat):Int)-1)=rd into (i:Int):=by rw[show((i+1:Nat):Int)-1=(i:Int)by omega]
  have hul:IntKind.u64.wrap (((done++[cur]).length:Nat):Int)=n+1:=by
   rw[IntWalk.u64_in _ (by rw[List.length_append];simp<;>omega),List.length_append];simp;omega
  rw[Qcj.l0,if_pos (by omega),if_pos (by omega),if_pos (by omega),if_pos (by omega),hul,List.drop_eq_getElem_cons hlt,Qwz i (by omega),rdR l i hlt]
  rcases h2 with⟨hq,hst⟩ |⟨hq,hst⟩
  ·rw[if_neg (by omega),if_pos (by omega),if_pos (by rw[List.length_append];simp<;>omega),hq,← hn,rdL_last,if_pos (by omega),set_last];have:=ihd (i+1) k n done (cur++[l[i]]) (by omega) (by omega) hn (by omega) (by simp<;>omega) (hp1.trans hq) hst (by omega);rw[partsS,if_pos (hq.trans hprev.symm)];exact this
  ·have hdl2:(((done++[cur]).length:Nat):Int)=n+1:=by rw[List.length_append];simp<;>omega
   rw[if_pos (by omega),if_pos (by rw[List.length_append];simp<;>omega),Option.bind_some,if_pos (by omega),if_pos (by rw[List.length_append];simp<;>omega),hq,← hdl2,rdL_last,if_pos (by simp),set_last];have:=ihd (i+1) k (n+1) (done++[cur]) [l[i]] (by omega) (by omega) hdl2 (by rw[List.length_append];simp<;>omega) (by simp<;>omega) (hp1.trans hq) hst (by omega);rw[partsS,if_neg (by rw[hq,hprev];omega)];have e2:done++cur :: partsS into (i+1) (l.drop (i+1)) [l[i]]=(done++[cur])++partsS into (i+1) (l.drop (i+1)) [l[i]]:=by simp
   rw[e2];exact this
theorem parts_ref(l:List Rec)(into:List Int)(hl:l.length≤1000000)(hil:into.length=l.length)(h:l≠[]→rd into 0=0∧StepsI into (l.length-1) 1 0)(k:Nat)(hk:l.length+3≤k):Qcj.f k l into=some (partsOf into l):=by
 unfold Qcj.f;obtain⟨k,rfl⟩:∃m,k=m+1:=⟨k-1,by omega⟩
 cases l with
 | nil =>
  rw[Qcj.l0,if_neg (by simp)];rfl
 | cons r t =>
  obtain⟨h0,hst⟩:=h (by simp);have hlt:0<(r :: t).length:=by simp
  have h0':rd into ((0:Nat):Int)=0:=h0;rw[show(0:Int)=((0:Nat):Int) from rfl,Qcj.l0,if_pos (by simp<;>omega),if_pos (by simp),if_pos (by simp<;>omega),if_pos (by rw[hil];simp<;>omega),rdR _ 0 hlt,h0',Qwz 0 (by omega)];have hul:IntKind.u64.wrap ((([]:List (List Rec)).length:Nat):Int)=0:=rfl;rw[hul,if_pos (by omega),if_pos (by simp),Option.bind_some,if_pos (by omega),if_pos (by simp)];have hq:=rdL_last [] [];have hz:(([]:List (List Rec)).length:Int)=0:=rfl;rw[hz]at hq;rw[hq,if_pos (by simp)];have:=parts_run (r :: t) into hl hil t.length 1 k 0 [] [r] (by simp<;>omega) (by omega) rfl (by simp) (by simp) h0 (by simpa using hst) (by simp at hk;omega);exact this
theorem chkL_of:∀ {g:List Rec},(∀r∈g,chkR r=0)→chkL g=0
 | [],_=>rfl
 | r :: g,h=>by
  have h1:=h r (List.mem_cons_self ..);have ih:=chkL_of (g:=g) (fun x hx=>h x (List.mem_cons_of_mem _ hx));unfold chkL;rw[h1,ih];simp
theorem AllG.drop{e s:Int}:∀(ps:List (List Rec)) (n:Int) (i:Nat),AllG e s n ps→AllG e s (n+i) (ps.drop i)
 | ps,n,0,h=>by simpa using h
 | [],n,i+1,_=>by simp[AllG]
 | g :: t,n,i+1,h=>by
  have:=AllG.drop t (n+1) i h.2;rw[show n+((i+1:Nat):Int)=n+1+(i:Int)by omega];exact this
theorem enc_ref_run{e s:Int}(hG:Good e s)(ps:List (List Rec))(hps:ps.length≤65536)(ha:AllG e s 0 ps)(K:Nat)(hK1:K≤100000)(hr:∀g∈ps,∀r∈g,okR r∧2*(r.f2.size+r.f3.size)+300≤K)(M:Nat)(hM:M≤1000000)(hg:∀g∈ps,g.length≤M):∀(d i k:Nat) (out:ByteArray),i+d=ps.length→out.size≤i*16777216→d+K+60*M+20000002≤k →
  ∃t,Qci.l0 k out ps ps (ps.length:Int) (i:Int) e s=some (t,0)∧bytesOf t=bytesOf out++imgP e s (i:Int) (ps.drop i):=by
 have hsz:=Qxv hG.1 hG.2.1;intro d
 induction d with
 | zero =>
  intro i k out hd ho hk;obtain⟨k,rfl⟩:∃m,k=m+1:=⟨k-1,by omega⟩;refine⟨out,?_,?_⟩
  ·rw[Qci.l0,if_neg (by omega)]
  ·rw[List.drop_of_length_le (by omega)];simp[imgP]
 | succ d ihd =>
  intro i k out hd ho hk;obtain⟨k,rfl⟩:∃m,k=m+1:=⟨k-1,by omega⟩;have hi:i<ps.length:=by omega
  have hmem:=List.getElem_mem hi;have hdrop:=AllG.drop ps 0 i ha;rw[List.drop_eq_getElem_cons hi,Int.zero_add]at hdrop;obtain⟨⟨g0,g1,g2,g3,g4⟩,_⟩:=hdrop;have hrg:=hr _ hmem;have hmg:=hg _ hmem;have hcnt:=fillB_count e s (i:Int) ps[i] (freshB e s (i:Int));have hf0:(freshB e s (i:Int)).2.2.length=0:=rfl;have hfit:=tail_fit hG (g:=ps[i]) (n:=(i:Int)) ⟨g0,g1,g2,g3,g4⟩ (decide (i+1<ps.length));obtain⟨t,e1,b1⟩:=seg_ref hG g0 g1 ps[i] (decide (i+1<ps.length)) k K (by omega) (fun r hx=>(hrg r hx).1.2) (chkL_of (fun r hx=>(hrg r hx).1.1)) (fun r hx=>(hrg r hx).2)
   (pair_nodup g2.2.2.2.1) (fun x hx=>(g2.2.2.1 x hx).1) (by rw[hcnt,hf0];omega) hfit (by omega)
  have b1':bytesOf t=segB e s (i:Int) ps[i] (decide (i+1<ps.length)):=b1;have hts:t.size=(szN e).toNat:=by rw[Qos,b1',seg_len hG ⟨g0,g1,g2,g3,g4⟩]
  obtain⟨r,e2,b2⟩:=ihd (i+1) k (out++t) (by omega) qq_24 (by omega);have hdec:(decide ((i:Int)<wrap64 ((ps.length:Int)-1)))=decide (i+1<ps.length):=by
   rw[Qxa ps.length (by omega) (by omega)]
   by_cases h:i+1<ps.length
   ·rw[decide_eq_true h,decide_eq_true (by omega)]
   ·rw[decide_eq_false h,decide_eq_false (by omega)]
  refine⟨r,?_,?_⟩
  ·rw[Qci.l0,if_pos (by omega),if_pos (by omega),if_pos (by omega),rdL ps i hi,IntWalk.u64_in _ (by omega),hdec,e1,Option.bind_some,if_pos (by omega),Qwz i (by omega)];exact e2
  ·rw[b2,Qwl,b1',List.drop_eq_getElem_cons hi,List.append_assoc]
   congr 1
   by_cases h:i+1<ps.length
   ·rw[List.drop_eq_getElem_cons h];show _=segB e s (i:Int) ps[i] true++imgP e s ((i:Int)+1) (ps[i+1] :: ps.drop (i+1+1));rw[decide_eq_true h];rfl
   ·rw[List.drop_of_length_le (by omega)];show _=segB e s (i:Int) ps[i] false;rw[decide_eq_false h];simp[imgP]
theorem AllG.len{e s:Int}:∀ {ps:List (List Rec)} {n:Int},0≤n→n≤s→AllG e s n ps→(ps.length:Int)+n≤s
 | [],n,_,h,_=>by simpa using h
 | g :: t,n,h0,_,h=>by
  have:=AllG.len (ps:=t) (n:=n+1) (by omega) (by have:=h.1.2.1;omega) h.2;rw[List.length_cons];omega
theorem encode_ref(e s:Int)(l:List Rec)(k:Nat)(hl:l.length≤1000000)(hw:Wf l)(hs:∀r∈l,r.f2.size+r.f3.size≤20000)(hk:100*l.length+50000000≤k) :
  ∃img er t,Qcu.f k e s l=some (img,er)∧Qci.f k e s l=some (t,er)∧bytesOf t=img:=by
 unfold Qci.f;rw[rplan_is e s l k hl hw (by omega),Option.bind_some]
 by_cases hz:(planSpec e s l).2.2=0
 ·obtain⟨hg,hc,hil,h1,h2,h3⟩:=encode_img e s l k hl hw (by omega) hz;obtain⟨_,_,_,h4,_,_⟩:=plan_parts hz hl;have hlen:=AllG.len (by omega) (by have:=hg.2.2.1;omega) h2;have hmem:∀g∈partsOf (planS e s l).1 l,∀r∈g,r∈l:=fun g hg' r hr=>by
   rw[← partsOf_flat (planS e s l).1 l];exact List.mem_flatten.2 ⟨g,hg',hr⟩
  have hgl:∀g∈partsOf (planS e s l).1 l,g.length≤l.length:=fun g hg'=>by
   have:=congrArg List.length (partsOf_flat (planS e s l).1 l);rw[← this];exact(List.sublist_flatten_of_mem hg').length_le
  obtain⟨t,e1,b1⟩:=enc_ref_run hg (partsOf (planS e s l).1 l) (by have:=hg.2.2.2;omega) h2 50000 (by omega) (fun g hg' r hr=>⟨⟨Qyu hc r (hmem g hg' r hr),hw r (hmem g hg' r hr)⟩,by have:=hs r (hmem g hg' r hr);omega⟩) l.length hl hgl (partsOf (planS e s l).1 l).length 0 k ⟨#[]⟩ (by omega) (by decide) (by have:=hg.2.2.2;omega);refine⟨_,0,t,h1,?_,?_⟩
  ·dsimp only;rw[if_pos hz,h4];dsimp only;rw[parts_ref l _ hl hil h3 k (by omega),Option.bind_some];exact e1
  ·rw[b1];rfl
 ·refine⟨[],(planSpec e s l).2.2,⟨#[]⟩,encode_bad e s l k hl hw (by omega) hz,?_,rfl⟩;dsimp only;rw[if_neg hz]
theorem rprefix_good{e s:Int}(hG:Good e s){l:List Int}(hb:Bytes l)(hl:l.length≤1000000){ps:List Pr}{j er:Int}(h:allL l (l.length+1) 0 []=(ps,j,er))(k:Nat)(hk:l.length+300≤k) :
  Qcl.f k e s (strOfNums l)=(Qci.f k e s (recsL 1 ps)).bind (fun t=>if t.2=0 then some (t.1,(ps.length:Int),j,0)else some ((⟨#[]⟩:ByteArray),0,0,t.2)):=by
 obtain⟨h1,h2,h3,h4,h5⟩:=gall_spec hb h;have h6:=sum_least h3;unfold Qcl.f;rw[Qxu hG,Option.bind_some,if_pos rfl,rall_is hb (by omega) k (by omega),h,Option.bind_some];dsimp only;rw[rrecs_is ps k (by omega) (by omega),Option.bind_some,List.length_map]
theorem sum_part:∀ {ps:List Pr} {p:Pr},p∈ps→szP p≤sumP' ps
 | q :: t,p,h=>by
  rcases List.mem_cons.1 h with rfl|h
  ·simp only[sumP'];omega
  ·have:=sum_part h;simp only[sumP'];omega
theorem recs_few:∀(n:Nat) {ps:List Pr} {M:Nat},(∀p∈ps,p.f0.size+p.f1.size≤M)→∀r∈recsL n ps,r.f2.size+r.f3.size≤M
 | _,[],_,_=>by simp[recsL]
 | n,p :: t,M,h=>by
  intro r hr
  rcases List.mem_cons.1 (show r∈_ :: recsL (n+1) t from hr)with rfl|hr
  ·exact h p (List.mem_cons_self ..)
  ·exact recs_few (n+1) (fun q hq=>h q (List.mem_cons_of_mem _ hq)) r hr
theorem imgs_few(e s:Int){ps:List Pr}(hp:∀p∈ps,okP p)(h:sumP' ps≤20000)(k:Nat)(hk:60000000≤k) :
  ∃img er t,Qcu.f k e s (recsL 1 ps)=some (img,er)∧Qci.f k e s (recsL 1 ps)=some (t,er)∧bytesOf t=img:=by
 have hl:=sum_least hp;refine encode_ref e s (recsL 1 ps) k (by rw[recsL_length];omega) (recs_wf 1 ps (by omega)) (recs_few 1 (fun p hq=>?_)) (by rw[recsL_length];omega);have:=sum_part hq;unfold szP at this;omega
theorem small_is{x:Int}(h:0≤x∧x<256):Qaq.f x=some (12+x%2,1+x/2%8)∧Good (12+x%2) (1+x/2%8):=by
 refine⟨?_,by unfold Good;omega⟩;unfold Qaq.f;rw[if_pos h.1,if_pos h.2]
end Go.Proofs.YtnnofopfbeklbaaGreat.CodecP
end
