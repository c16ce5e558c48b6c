/- Texts of this claim's author and of the print of its functions, merged by merge.py. -/
import Derived.Test.YtnnofopfbeklbaaGreatMH36
import Derived.Test.YtnnofopfbeklbaaGreatMH19
import Derived.Test.YtnnofopfbeklbaaGreatMH35
set_option linter.unusedVariables false
set_option linter.unusedSimpArgs false
set_option maxHeartbeats 8000000
set_option maxRecDepth 100000
section
namespace Go.Proofs.YtnnofopfbeklbaaGreat.CodecP
open Go.RowKit Go.Proofs.YtnnofopfbeklbaaGreat.C Go.Proofs.YtnnofopfbeklbaaGreatW.PrintWords Go.Proofs.YtnnofopfbeklbaaGreatW.PrintLast Go.Proofs.YtnnofopfbeklbaaGreatW.PrintMore
abbrev REnt:=S122
def toR(x:Ent):REnt:=⟨x.f0,x.f1⟩
def ltR(x y:REnt):Bool:=decide (x.f0<y.f0) ||(decide (x.f0=y.f0) && decide (x.f1<y.f1))
def insR(x:REnt):List REnt→List REnt
 | []=>[x]
 | y :: t=>if ltR x y=true then x :: y :: t else y :: insR x t
theorem rdRE(l:List REnt)(i:Nat)(h:i<l.length):Qjj l (i:Int)=l[i]:=by simp[Qjj,List.getElem?_eq_getElem h]
theorem less_is(a b:REnt):Qbx.f a.f0 a.f1 b.f0 b.f1=some (ltR a b):=by
 unfold Qbx.f ltR
 by_cases h1:a.f0<b.f0
 ·simp[h1]
 ·by_cases h2:a.f0=b.f0
  ·simp[h1,h2]
  ·simp[h1,h2]
theorem put_run(x:REnt)(l:List REnt)(hl:l.length≤1000000)(hx:x∉l):∀(d i k:Nat) (out:List REnt) (b:Bool),i+d=l.length→out.length≤i+b.toNat→d+2≤k →
  Qbu.l0 k out b l (l.length:Int) (i:Int) x.f0 x.f1=some (out++(if b=true then l.drop i else insR x (l.drop i))):=by
 intro d
 induction d with
 | zero =>
  intro i k out b hd ho hk
  obtain⟨k,rfl⟩:∃m,k=m+1:=⟨k-1,by omega⟩
  rw[Qbu.l0,if_neg (by omega),List.drop_of_length_le (by omega)]
  cases b with
  | true=>simp
  | false =>
   have ho':out.length≤i:=ho
   rw[if_neg (by simp),if_pos (by omega)]
   simp[insR]
 | succ d ihd =>
  intro i k out b hd ho hk
  obtain⟨k,rfl⟩:∃m,k=m+1:=⟨k-1,by omega⟩
  have hi:i<l.length:=by omega
  have hne:l[i]≠x:=fun e=>hx (e ▸ List.getElem_mem hi)
  have hcmp:(l[i].f0 == x.f0 && l[i].f1 == x.f1)=false:=by
   cases h:(l[i].f0 == x.f0 && l[i].f1 == x.f1)with
   | false=>rfl
   | true =>
    exfalso
    simp only[Bool.and_eq_true,beq_iff_eq]at h
    refine hne ?_
    generalize l[i]=y at *
    cases y;cases x;simp_all
  have heta:(⟨l[i].f0,l[i].f1⟩:REnt)=l[i]:=rfl
  rw[Qbu.l0,if_pos (by omega),if_pos (by omega),if_pos (by omega),rdRE l i hi,hcmp,if_neg (by simp),Qoc i (by omega),heta,List.drop_eq_getElem_cons hi]
  cases b with
  | true =>
   have ho':out.length≤i+1:=ho
   rw[if_pos rfl,if_pos (by omega),ihd (i+1) k (out++[l[i]]) true (by omega) (by rw[List.length_append];simp;omega) (by omega)]
   simp
  | false =>
   have ho':out.length≤i:=ho
   rw[if_neg (by simp),less_is x l[i],Option.bind_some]
   by_cases hlt:ltR x l[i]=true
   ·rw[if_pos hlt,if_pos (by omega),Option.bind_some,if_pos (by rw[List.length_append];simp;omega)]
    have ih:=ihd (i+1) k (out++[x]++[l[i]]) true (by omega) (by rw[List.length_append,List.length_append];simp;omega) (by omega)
    rw[ih]
    simp[insR,hlt]
   ·rw[if_neg hlt,if_pos (by omega),ihd (i+1) k (out++[l[i]]) false (by omega) (by rw[List.length_append];simp;omega) (by omega)]
    simp[insR,hlt]
theorem Qyv(x y:REnt):∀(l:List REnt),y∈insR x l↔y=x∨y∈l
 | []=>by simp[insR]
 | z :: t=>by
  unfold insR
  split
  ·simp
  ·rw[List.mem_cons,Qyv x y t,List.mem_cons]
   constructor
   ·rintro(h|h|h)
    ·exact .inr (.inl h)
    ·exact .inl h
    ·exact .inr (.inr h)
   ·rintro(h|h|h)
    ·exact .inr (.inl h)
    ·exact .inl h
    ·exact .inr (.inr h)
theorem Qyw(x:REnt):∀(l:List REnt),(insR x l).length=l.length+1
 | []=>rfl
 | z :: t=>by
  unfold insR
  split
  ·simp
  ·rw[List.length_cons,Qyw x t,List.length_cons]
theorem Qyx{a b c:REnt}(h1:ltR a b=true)(h2:ltR b c=true):ltR a c=true:=by
 unfold ltR at *
 simp at *
 omega
theorem ltR_tri{a b:REnt}(h:ltR a b=false)(hne:a≠b):ltR b a=true:=by
 unfold ltR at *
 simp at *
 have:a.f0≠b.f0∨a.f1≠b.f1:=by
  by_cases h0:a.f0=b.f0
  ·by_cases h1:a.f1=b.f1
   ·exfalso
    refine hne ?_
    cases a;cases b;simp_all
   ·exact .inr h1
  ·exact .inl h0
 omega
theorem Qyy(a:REnt):ltR a a=false:=by
 unfold ltR
 simp
theorem Qyz(x:REnt):∀(l:List REnt),x∉l→l.Pairwise (fun a b=>ltR a b=true)→(insR x l).Pairwise (fun a b=>ltR a b=true)
 | [],_,_=>by simp[insR]
 | z :: t,hx,hp=>by
  have hp2:=List.pairwise_cons.1 hp
  unfold insR
  split
  ·rename_i h
   refine List.pairwise_cons.2 ⟨?_,hp⟩
   intro y hy
   rcases List.mem_cons.1 hy with rfl|hy
   ·exact h
   ·exact Qyx h (hp2.1 y hy)
  ·rename_i h
   refine List.pairwise_cons.2 ⟨?_,Qyz x t (fun h'=>hx (List.mem_cons_of_mem _ h')) hp2.2⟩
   intro y hy
   rcases(Qyv x y t).1 hy with rfl|hy
   ·exact ltR_tri (by simpa using h) (fun e=>hx (e ▸ List.mem_cons_self))
   ·exact hp2.1 y hy
theorem rising_uniq:∀(a b:List REnt),a.Pairwise (fun x y=>ltR x y=true)→b.Pairwise (fun x y=>ltR x y=true)→(∀x,x∈a↔x∈b)→a=b
 | [],[],_,_,_=>rfl
 | [],y :: b,_,_,h=>absurd ((h y).2 List.mem_cons_self) (by simp)
 | x :: a,[],_,_,h=>absurd ((h x).1 List.mem_cons_self) (by simp)
 | x :: a,y :: b,ha,hb,h=>by
  have ha2:=List.pairwise_cons.1 ha
  have hb2:=List.pairwise_cons.1 hb
  have hxy:x=y:=by
   rcases List.mem_cons.1 ((h x).1 List.mem_cons_self)with e|h1
   ·exact e
   ·rcases List.mem_cons.1 ((h y).2 List.mem_cons_self)with e|h2
    ·exact e.symm
    ·have h3:=Qyx (hb2.1 x h1) (ha2.1 y h2)
     rw[Qyy]at h3
     cases h3
  subst hxy
  have hxa:x∉a:=fun hm=>by have:=ha2.1 x hm;rw[Qyy]at this;cases this
  have hxb:x∉b:=fun hm=>by have:=hb2.1 x hm;rw[Qyy]at this;cases this
  rw[rising_uniq a b ha2.2 hb2.2 (fun z=>by
   constructor
   ·intro hz
    rcases List.mem_cons.1 ((h z).1 (List.mem_cons_of_mem _ hz))with rfl|h1
    ·exact absurd hz hxa
    ·exact h1
   ·intro hz
    rcases List.mem_cons.1 ((h z).2 (List.mem_cons_of_mem _ hz))with rfl|h1
    ·exact absurd hz hxb
    ·exact h1)]
theorem sorted_run(l:List REnt)(hl:l.length≤1000000)(hn:l.Nodup):∀(d i k:Nat) (acc:List REnt),i+d=l.length→acc.length=i→(∀x,x∈acc↔x∈l.take i)→acc.Pairwise (fun a b=>ltR a b=true)→d+l.length+5≤k →
  ∃r,Qbv.l0 k acc l (l.length:Int) (i:Int)=some r∧(∀x,x∈r↔x∈l)∧r.Pairwise (fun a b=>ltR a b=true):=by
 intro d
 induction d with
 | zero =>
  intro i k acc hd ha hm hp hk
  obtain⟨k,rfl⟩:∃m,k=m+1:=⟨k-1,by omega⟩
  refine⟨acc,?_,?_,hp⟩
  ·rw[Qbv.l0,if_neg (by omega)]
  ·rw[List.take_of_length_le (by omega)]at hm
   exact hm
 | succ d ihd =>
  intro i k acc hd ha hm hp hk
  obtain⟨k,rfl⟩:∃m,k=m+1:=⟨k-1,by omega⟩
  have hi:i<l.length:=by omega
  have hna:l[i]∉acc:=by
   intro hc
   have h1:=(hm _).1 hc
   obtain⟨j,hj,he⟩:=List.getElem_of_mem h1
   rw[List.length_take]at hj
   rw[List.getElem_take]at he
   exact List.pairwise_iff_getElem.1 hn j i (by omega) hi (by omega) he
  have hput:=put_run l[i] acc (by omega) hna acc.length 0 k [] false (by omega) (by simp) (by omega)
  rw[Qbv.l0,if_pos (by omega),if_pos (by omega),if_pos (by omega),rdRE l i hi]
  have hf:Qbu.f k acc l[i].f0 l[i].f1=some (insR l[i] acc):=by
   unfold Qbu.f
   exact hput
  rw[hf,Option.bind_some,Qoc i (by omega)]
  refine ihd (i+1) k _ (by omega) (by rw[Qyw,ha]) ?_ (Qyz _ _ hna hp) (by omega)
  intro x
  rw[Qyv,hm,List.take_succ_eq_append_getElem hi,List.mem_append,List.mem_singleton]
  exact Or.comm
theorem toR_inj{a b:Ent}(h:toR a=toR b):a=b:=by
 cases a;cases b
 unfold toR at h
 simp at h
 simp[h]
theorem ltR_toR(a b:Ent):ltR (toR a) (toR b)=ltOf cfE a b:=(Qpl a b).symm
theorem map_nodup{l:List Ent}(h:l.Nodup):(l.map toR).Nodup:=by
 rw[List.Nodup,List.pairwise_map]
 exact h.imp (fun hab he=>hab (toR_inj he))
theorem sortE_strict{l:List Ent}(h:l.Nodup):((Qpj l).map toR).Pairwise (fun a b=>ltR a b=true):=by
 rw[List.pairwise_map]
 have h1:=Qyp l
 have h2:(Qpj l).Nodup:=(Qpt l).nodup_iff.2 h
 refine(List.pairwise_and_iff.2 ⟨h1,h2⟩).imp ?_
 intro a b hab
 rw[ltR_toR]
 cases hq:ltOf cfE a b with
 | true=>rfl
 | false=>exact absurd (totE a b hq (by simpa using hab.1)) hab.2
theorem sort_ref(l:List Ent)(k:Nat)(hl:l.length≤1000000)(hn:l.Nodup)(hk:2*l.length+5≤k):Qbv.f k (l.map toR)=some ((Qpj l).map toR):=by
 obtain⟨r,h1,h2,h3⟩:=sorted_run (l.map toR) (by rw[List.length_map];exact hl) (map_nodup hn) l.length 0 k [] (by rw[List.length_map];omega) rfl (by simp) (by simp) (by rw[List.length_map];omega)
 unfold Qbv.f
 have h4:r=(Qpj l).map toR:=rising_uniq _ _ h3 (sortE_strict hn) (fun x=>by
  rw[h2,List.mem_map,List.mem_map]
  constructor
  ·rintro⟨y,hy,e⟩;exact⟨y,(Qpt l).mem_iff.2 hy,e⟩
  ·rintro⟨y,hy,e⟩;exact⟨y,(Qpt l).mem_iff.1 hy,e⟩)
 rw[← h4]
 exact h1
def entR(x:REnt):List Int:=leb x.f0 8++leb x.f1 4
def wfR(x:REnt):Prop:=(0≤x.f0∧x.f0<18446744073709551616)∧0≤x.f1∧x.f1<4294967296
theorem text_run(l:List REnt)(hl:l.length≤1000000)(hw:∀x∈l,wfR x):∀(d i k:Nat) (out:ByteArray),i+d=l.length→out.size≤12*i→d+20≤k →
  ∃t,Qbw.l0 k out l (l.length:Int) (i:Int)=some t∧bytesOf t=bytesOf out++(l.drop i).flatMap entR:=by
 intro d
 induction d with
 | zero =>
  intro i k out hd ho hk
  obtain⟨k,rfl⟩:∃m,k=m+1:=⟨k-1,by omega⟩
  refine⟨out,?_,?_⟩
  ·rw[Qbw.l0,if_neg (by omega)]
  ·rw[List.drop_of_length_le (by omega)]
   simp
 | succ d ihd =>
  intro i k out hd ho hk
  obtain⟨k,rfl⟩:∃m,k=m+1:=⟨k-1,by omega⟩
  have hi:i<l.length:=by omega
  obtain⟨h1,h2⟩:=hw l[i] (List.getElem_mem hi)
  obtain⟨t1,e1,b1⟩:=num1 k 8 l[i].f0 (by omega) h1.1 h1.2 (by omega)
  obtain⟨t2,e2,b2⟩:=num1 k 4 l[i].f1 (by omega) h2.1 (by omega) (by omega)
  have z1:t1.size=8:=by rw[Qmn,b1,Qjl]
  have z2:t2.size=4:=by rw[Qmn,b2,Qjl]
  obtain⟨t,e3,b3⟩:=ihd (i+1) k ((out++t1)++t2) (by omega) (by rw[ByteArray.size_append,ByteArray.size_append];omega) (by omega)
  refine⟨t,?_,?_⟩
  ·rw[Qbw.l0,if_pos (by omega),if_pos (by omega),if_pos (by omega),rdRE l i hi,show(8:Int)=((8:Nat):Int) from rfl,e1,Option.bind_some,if_pos (by omega),IntWalk.u64_in _ (by omega),show(4:Int)=((4:Nat):Int) from rfl,e2,Option.bind_some,if_pos qq_18,Qoc i (by omega)]
   exact e3
  ·rw[b3,Qnq,Qnq,b1,b2,List.drop_eq_getElem_cons hi,List.flatMap_cons]
   simp[entR]
theorem ftext_run(l:List Int)(hl:l.length≤1000000)(hw:∀x∈l,0≤x∧x<18446744073709551616):∀(d i k:Nat) (out:ByteArray),i+d=l.length→out.size≤8*i→d+20≤k →
  ∃t,Qbz.l0 k out l (l.length:Int) (i:Int)=some t∧bytesOf t=bytesOf out++(l.drop i).flatMap (fun x=>leb x 8):=by
 intro d
 induction d with
 | zero =>
  intro i k out hd ho hk
  obtain⟨k,rfl⟩:∃m,k=m+1:=⟨k-1,by omega⟩
  refine⟨out,?_,?_⟩
  ·rw[Qbz.l0,if_neg (by omega)]
  ·rw[List.drop_of_length_le (by omega)]
   simp
 | succ d ihd =>
  intro i k out hd ho hk
  obtain⟨k,rfl⟩:∃m,k=m+1:=⟨k-1,by omega⟩
  have hi:i<l.length:=by omega
  obtain⟨h1,h2⟩:=hw l[i] (List.getElem_mem hi)
  obtain⟨t1,e1,b1⟩:=num1 k 8 l[i] (by omega) h1 h2 (by omega)
  have z1:t1.size=8:=by rw[Qmn,b1,Qjl]
  obtain⟨t,e3,b3⟩:=ihd (i+1) k (out++t1) (by omega) qq_18 (by omega)
  refine⟨t,?_,?_⟩
  ·rw[Qbz.l0,if_pos (by omega),if_pos (by omega),if_pos (by omega),rd_get hi,show(8:Int)=((8:Nat):Int) from rfl,e1,Option.bind_some,if_pos (by omega),Qoc i (by omega)]
   exact e3
  ·rw[b3,Qnq,b1,List.drop_eq_getElem_cons hi,List.flatMap_cons]
   simp
def fenR(l:List REnt)(m:Nat):List Int:=(List.range m).map (fun j=>(Qjj l ((j*16:Nat):Int)).f0)
theorem of_run(l:List REnt)(hl:l.length≤1000000):∀(d i k:Nat),i+d=l.length→d+2≤k →
  Qby.l0 k (fenR l ((i+15)/16)) l (l.length:Int) (i:Int)=some (fenR l ((l.length+15)/16)):=by
 intro d
 induction d with
 | zero =>
  intro i k hd hk
  obtain⟨k,rfl⟩:∃m,k=m+1:=⟨k-1,by omega⟩
  rw[Qby.l0,if_neg (by omega),show i=l.length by omega]
 | succ d ihd =>
  intro i k hd hk
  obtain⟨k,rfl⟩:∃m,k=m+1:=⟨k-1,by omega⟩
  have hi:i<l.length:=by omega
  have htm:Int.tmod (i:Int) 16=((i%16:Nat):Int):=by rw[Int.tmod_eq_emod_of_nonneg (by omega)];rfl
  have ih:=ihd (i+1) k (by omega) (by omega)
  rw[Qby.l0,if_pos (by omega),if_pos (by omega),if_pos (by omega),htm,Qoc i (by omega)]
  by_cases h0:i%16=0
  ·rw[if_pos (by omega),if_pos (by simp[fenR];omega)]
   have hs:(i+1+15)/16=(i+15)/16+1:=by omega
   rw[hs]at ih
   have hf:fenR l ((i+15)/16+1)=fenR l ((i+15)/16)++[(Qjj l (i:Int)).f0]:=by
    unfold fenR
    rw[List.range_succ,List.map_append]
    simp only[List.map_cons,List.map_nil]
    rw[show(i+15)/16*16=i by omega]
   rw[hf]at ih
   exact ih
  ·rw[if_neg (by omega)]
   have hs:(i+1+15)/16=(i+15)/16:=by omega
   rw[hs]at ih
   exact ih
theorem fen_is(l:List Ent):fenR (l.map toR) ((l.length+15)/16)=Qoz l:=by
 unfold fenR Qoz chN
 refine List.map_congr_left fun j hj=>?_
 rw[List.mem_range]at hj
 have h1:j*16<l.length:=by omega
 unfold Qoy
 rw[rdRE _ _ (by rw[List.length_map];exact h1),rdE l _ h1,List.getElem_map]
 rfl
theorem ent_is:∀(l:List Ent),(l.map toR).flatMap entR=l.flatMap ent
 | []=>rfl
 | x :: t=>by rw[List.map_cons,List.flatMap_cons,List.flatMap_cons,ent_is t];rfl
theorem wf_fence(l:List Ent)(hw:∀x∈l,wfE x):∀x∈Qoz l,0≤x∧x<18446744073709551616:=by
 intro x hx
 unfold Qoz chN at hx
 obtain⟨j,hj,rfl⟩:=List.mem_map.1 hx
 rw[List.mem_range]at hj
 have h1:j*16<l.length:=by omega
 unfold Qoy
 rw[rdE l _ h1]
 exact(hw _ (List.getElem_mem h1)).1
theorem foot_ref(used:Int)(l:List Ent)(k:Nat)(h0:0≤used)(h1:used<4294967296)(hl:l.length≤1000000)(hw:∀x∈l,wfE x)(hk:50*l.length+2000≤k) :
  ∃t,Qca.f k used (l.map toR)=some t∧bytesOf t=Qqe used l:=by
 obtain⟨t1,e1,b1⟩:=num1 k 4 (l.length:Int) (by omega) (by omega) (by omega) (by omega)
 obtain⟨t2,e2,b2⟩:=num1 k 4 used (by omega) (by omega) (by omega) (by omega)
 obtain⟨t3,e3,b3⟩:=text_run (l.map toR) (by rw[List.length_map];exact hl) (fun x hx=>by
  obtain⟨y,hy,rfl⟩:=List.mem_map.1 hx
  exact hw y hy) l.length 0 k (⟨#[]⟩:ByteArray) (by rw[List.length_map];omega) (by decide) (by omega)
 have hof:=of_run (l.map toR) (by rw[List.length_map];exact hl) l.length 0 k (by rw[List.length_map];omega) (by omega)
 have hfl:=Qyl l
 obtain⟨t4,e4,b4⟩:=ftext_run (Qoz l) (by omega) (wf_fence l hw) (Qoz l).length 0 k (⟨#[]⟩:ByteArray) (by omega) (by decide) (by omega)
 have z1:t1.size=4:=by rw[Qmn,b1,Qjl]
 have z2:t2.size=4:=by rw[Qmn,b2,Qjl]
 have b3':bytesOf t3=l.flatMap ent:=by rw[b3,List.drop_zero,ent_is];rfl
 have b4':bytesOf t4=(Qoz l).flatMap (fun x=>leb x 8):=by rw[b4,List.drop_zero];rfl
 have hp:=Qqg (l.length:Int) used l
 rw[List.nil_append]at hp
 have hb:bytesOf ((((((⟨#[4]⟩:ByteArray)++t1)++t2)++t3)++t4))=[4]++leb l.length 4++leb used 4++l.flatMap ent++(Qoz l).flatMap (fun x=>leb x 8):=by
  rw[Qnq,Qnq,Qnq,Qnq,b1,b2,b3',b4']
  rfl
 have hsz:(((((⟨#[4]⟩:ByteArray)++t1)++t2)++t3)++t4).size=9+12*l.length+8*(Qoz l).length:=by
  rw[Qmn,hb]
  exact hp
 obtain⟨t,e5,b5⟩:=Quv k ((((((⟨#[4]⟩:ByteArray)++t1)++t2)++t3)++t4)) (by omega) (by omega)
 refine⟨t,?_,by rw[b5,hb];rfl⟩
 have hc:(⟨#[4]⟩:ByteArray).size=1:=rfl
 have hs4:(((((⟨#[4]⟩:ByteArray)++t1)++t2)++t3)++t4).size=1+t1.size+t2.size+t3.size+t4.size:=by
  rw[ByteArray.size_append,ByteArray.size_append,ByteArray.size_append,ByteArray.size_append,hc]
 have hT:Qbw.f k (l.map toR)=some t3:=e3
 have hO:Qby.f k (l.map toR)=some (Qoz l):=by
  rw[← fen_is]
  have:fenR (l.map toR) ((0+15)/16)=[]:=rfl
  rw[this,List.length_map]at hof
  unfold Qby.f
  rw[List.length_map]
  exact hof
 have hF:Qbz.f k (Qoz l)=some t4:=e4
 unfold Qca.f
 rw[List.length_map,IntWalk.u64_in _ (by omega),show(4:Int)=((4:Nat):Int) from rfl,e1,Option.bind_some,if_pos (by omega),IntWalk.u64_in _ (by omega),e2,Option.bind_some,if_pos qq_18,hT,Option.bind_some,if_pos (by rw[ByteArray.size_append,ByteArray.size_append];omega),hO,Option.bind_some,hF,Option.bind_some,if_pos (by rw[ByteArray.size_append,ByteArray.size_append,ByteArray.size_append];omega),e5,Option.bind_some]
theorem wrap_small{x:Int}(h0:0≤x)(h1:x≤4611686018427387903):wrap64 x=x:=by unfold wrap64;omega
theorem erased_run:∀(d i k:Nat) (n:Nat),i+d=n→n≤1000000000→d+1≤k →
  Qcb.l0 k (List.replicate i 255++List.replicate d 0) (n:Int) (i:Int)=some (strOfNums (List.replicate n 255)):=by
 intro d
 induction d with
 | zero =>
  intro i k n hd hn hk
  obtain⟨k,rfl⟩:∃m,k=m+1:=⟨k-1,by omega⟩
  rw[Qcb.l0,if_neg (by omega),show i=n by omega]
  simp
 | succ d ihd =>
  intro i k n hd hn hk
  obtain⟨k,rfl⟩:∃m,k=m+1:=⟨k-1,by omega⟩
  have ih:=ihd (i+1) k n (by omega) hn (by omega)
  rw[Qcb.l0,if_pos (by omega),if_pos (by omega),if_pos (by rw[List.length_append,List.length_replicate,List.length_replicate];omega),Qoc i (by omega),Int.toNat_natCast]
  have hs:(List.replicate i (255:Int)++List.replicate (d+1) 0).set i 255=List.replicate (i+1) 255++List.replicate d 0:=by
   rw[List.set_append_right _ _ (by simp),List.length_replicate,Nat.sub_self,List.replicate_succ,List.set_cons_zero,List.replicate_succ',List.append_assoc]
   rfl
  rw[hs]
  exact ih
theorem erased_ref(a:Int)(k:Nat)(h:a≤1000000000)(hk:a.toNat+2≤k):Qcb.f k a=some (strOfNums (List.replicate a.toNat 255)):=by
 have hm:mx 0 a=(a.toNat:Int):=by unfold mx;split<;>omega
 have h1:=erased_run a.toNat 0 k a.toNat (by omega) (by omega) (by omega)
 unfold Qcb.f
 rw[hm,if_pos (by omega),Int.toNat_natCast,if_pos (by omega),Option.bind_some,List.length_replicate]
 simpa using h1
def fillB(e s n:Int):Bd→List Rec→Bd
 | B,[]=>B
 | B,r :: t=>fillB e s n (putB e s n B r) t
theorem frames_run(e s n:Int)(l:List Rec)(hl:l.length≤1000000)(hw:Wf l)(hc:chkL l=0)(K:Nat)(hK:∀r∈l,2*(r.f2.size+r.f3.size)+300≤K):∀(d i k:Nat) (B:Bd) (out:ByteArray),i+d=l.length→bytesOf out=B.2.1→B.2.2.length≤i→out.size≤1000+i*8388608→d+K+1≤k →
  ∃t k',k'+d+1=k∧bytesOf t=(fillB e s n B (l.drop i)).2.1 ∧
   Qcc.l0 k out (B.2.2.map toR) l (l.length:Int) (i:Int)=(Qbv.f k' ((fillB e s n B (l.drop i)).2.2.map toR)).bind fun q=>some (t,q):=by
 intro d
 induction d with
 | zero =>
  intro i k B out hd ho hb hz hk
  obtain⟨k,rfl⟩:∃m,k=m+1:=⟨k-1,by omega⟩
  refine⟨out,k,by omega,?_,?_⟩
  ·rw[List.drop_of_length_le (by omega)]
   exact ho
  ·rw[Qcc.l0,if_neg (by omega),List.drop_of_length_le (by omega)]
   rfl
 | succ d ihd =>
  intro i k B out hd ho hb hz hk
  obtain⟨k,rfl⟩:∃m,k=m+1:=⟨k-1,by omega⟩
  have hi:i<l.length:=by omega
  have hcr:chkR l[i]=0:=Qvl hc _ (List.getElem_mem hi)
  have hwr:=hw l[i] (List.getElem_mem hi)
  have hx:=Qvp l[i] hcr
  have hch:=Qnf hcr
  have hkk:=hK l[i] (List.getElem_mem hi)
  obtain⟨t,e1,b1⟩:=Quw k l[i].f0 l[i].f1 l[i].f2 l[i].f3 hwr.1 hwr.2 (by omega) (by omega) (by omega)
  have hts:(t.size:Int)=fsz l[i]:=by rw[Qmn,b1];rfl
  have hh:=Qne 0 l[i].f2 k ⟨by omega,by omega⟩ (by omega) (by omega)
  have hos:(out.size:Int)=(B.2.1.length:Int):=by rw[Qmn,ho]
  obtain⟨r,k',hk',b2,e2⟩:=ihd (i+1) k (putB e s n B l[i]) (out++t) (by omega) (by rw[Qnq,ho,b1];rfl) (by simp[putB];omega) qq_18 (by omega)
  refine⟨r,k',by omega,?_,?_⟩
  ·rw[b2,List.drop_eq_getElem_cons hi]
   rfl
  ·rw[Qcc.l0,if_pos (by omega),if_pos (by omega),if_pos (by omega),rdR l i hi,hh,Option.bind_some,if_pos (by rw[List.length_map];omega),e1,Option.bind_some,if_pos (by omega),Qoc i (by omega),List.drop_eq_getElem_cons hi]
   have hm:(putB e s n B l[i]).2.2.map toR=B.2.2.map toR++[(⟨Qma 0 (bytesOf l[i].f2),(out.size:Int)%4294967296⟩:REnt)]:=by
    simp only[putB,List.map_append,List.map_cons,List.map_nil]
    rw[hos]
    rfl
   rw[hm]at e2
   exact e2
def tailB(B:Bd)(b:Bool):List Int:=B.2.1++(if b=true then Qqe (Qqh B) (Qpj B.2.2)else [])
def partB(e s n:Int)(g:List Rec):Bd:=fillB e s n (freshB e s n) g
def segB(e s n:Int)(g:List Rec)(b:Bool):List Int:=tailB (partB e s n g) b++List.replicate ((szN e).toNat-(tailB (partB e s n g) b).length) 255
theorem fillB_snoc(e s n:Int):∀(g:List Rec) (B:Bd) (r:Rec),fillB e s n B (g++[r])=putB e s n (fillB e s n B g) r
 | [],_,_=>rfl
 | x :: g,B,r=>by
  show fillB e s n (putB e s n B x) (g++[r])=_
  rw[fillB_snoc e s n g]
  rfl
theorem fillB_frames(e s n:Int):∀(g:List Rec) (B:Bd),(fillB e s n B g).2.1=B.2.1++g.flatMap Qvm
 | [],B=>by simp[fillB]
 | x :: g,B=>by
  show(fillB e s n (putB e s n B x) g).2.1=_
  rw[fillB_frames e s n g,List.flatMap_cons]
  simp[putB]
theorem part_frames(e s n:Int)(g:List Rec):(partB e s n g).2.1=Qno e s n++g.flatMap Qvm:=fillB_frames e s n g _
theorem seal_bytes{b:List Int}(hb:Bytes b):Bytes (Qnk b):=by
 unfold Qnk
 refine(Qvs _ _ (Nat.le_refl _) (hb.app (Qvy 8 _))).2.1.app ?_
 intro y hy
 rcases List.mem_singleton.1 hy with rfl
 omega
theorem head_bytes{e s n:Int}(he:0≤e∧e<256)(hs:0≤s∧s<4294967296)(hn:0≤n∧n<4294967296):Bytes (Qno e s n):=by
 unfold Qno
 refine seal_bytes (Bytes.app (Bytes.app ?_ (Qwd s hs.1 (by omega))) (Qwd n hn.1 (by omega)))
 intro y hy
 simp only[List.mem_cons,List.not_mem_nil,or_false]at hy
 omega
theorem entsL_front(bs:List Int)(i n:Nat):Qrj bs i (n+1)=(⟨leI ((bs.drop i).take 8),leI ((bs.drop (i+8)).take 4)⟩:Ent) :: Qrj bs (i+12) n:=by
 unfold Qrj
 rw[List.range_succ_eq_map,List.map_cons,List.map_map]
 congr 1
 refine List.map_congr_left fun j _=>?_
 simp only[Function.comp,Nat.succ_eq_add_one]
 rw[show i+12*(j+1)=i+12+12*j by omega]
theorem wordsL_front(bs:List Int)(i n:Nat):Qre bs i (n+1)=leI ((bs.drop i).take 8) :: Qre bs (i+8) n:=by
 unfold Qre
 rw[List.range_succ_eq_map,List.map_cons,List.map_map]
 congr 1
 refine List.map_congr_left fun j _=>?_
 simp only[Function.comp,Nat.succ_eq_add_one]
 rw[show i+8*(j+1)=i+8+8*j by omega]
theorem drop_leb{bs t:List Int}{i:Nat}{x:Int}{n:Nat}(h:bs.drop i=leb x n++t):(bs.drop i).take n=leb x n∧bs.drop (i+n)=t:=by
 refine⟨by rw[h,List.take_left' (Qjl _ _)],by rw[← List.drop_drop,h,List.drop_left' (Qjl _ _)]⟩
theorem ents_flat(bs:List Int):∀(t:List Ent) (i:Nat) (rest:List Int),(∀x∈t,wfE x)→bs.drop i=t.flatMap ent++rest→Qrj bs i t.length=t∧bs.drop (i+12*t.length)=rest
 | [],i,rest,_,h=>⟨rfl,h⟩
 | x :: t,i,rest,hw,h=>by
  obtain⟨⟨h0,h1⟩,h2,h3⟩:=hw x (List.mem_cons_self ..)
  rw[List.flatMap_cons]at h
  unfold ent at h
  rw[List.append_assoc,List.append_assoc]at h
  obtain⟨e1,e2⟩:=drop_leb h
  obtain⟨e3,e4⟩:=drop_leb e2
  obtain⟨e5,e6⟩:=ents_flat bs t (i+12) rest (fun y hy=>hw y (List.mem_cons_of_mem _ hy)) e4
  refine⟨?_,?_⟩
  ·rw[List.length_cons,entsL_front,e5,e1,e3,Qxk 8 _ h0 (by simpa using h1),Qxk 4 _ h2 (by simpa using h3)]
  ·rw[List.length_cons,show i+12*(t.length+1)=i+12+12*t.length by omega]
   exact e6
theorem words_flat(bs:List Int):∀(t:List Int) (i:Nat) (rest:List Int),(∀x∈t,0≤x∧x<18446744073709551616)→bs.drop i=t.flatMap (fun x=>leb x 8)++rest→Qre bs i t.length=t∧bs.drop (i+8*t.length)=rest
 | [],i,rest,_,h=>⟨rfl,h⟩
 | x :: t,i,rest,hw,h=>by
  obtain⟨h0,h1⟩:=hw x (List.mem_cons_self ..)
  rw[List.flatMap_cons,List.append_assoc]at h
  obtain⟨e1,e2⟩:=drop_leb h
  obtain⟨e5,e6⟩:=words_flat bs t (i+8) rest (fun y hy=>hw y (List.mem_cons_of_mem _ hy)) e2
  refine⟨?_,?_⟩
  ·rw[List.length_cons,wordsL_front,e5,e1,Qxk 8 _ h0 (by simpa using h1)]
  ·rw[List.length_cons,show i+8*(t.length+1)=i+8+8*t.length by omega]
   exact e6
theorem leb_drop{bs:List Int}(hb:Bytes bs){i n:Nat}(h:i+n≤bs.length):bs.drop i=leb (leI ((bs.drop i).take n)) n++bs.drop (i+n):=by
 have hl:((bs.drop i).take n).length=n:=by rw[List.length_take,List.length_drop];omega
 have h1:=Qxj ((bs.drop i).take n) ((hb.drop _).take _)
 rw[hl]at h1
 rw[h1,← List.drop_drop,List.take_append_drop]
theorem ents_back{bs:List Int}(hb:Bytes bs):∀(n i:Nat),i+12*n≤bs.length→bs.drop i=(Qrj bs i n).flatMap ent++bs.drop (i+12*n)
 | 0,i,h=>rfl
 | n+1,i,h=>by
  have ih:=ents_back hb n (i+12) (by omega)
  rw[entsL_front,List.flatMap_cons]
  unfold ent at ih ⊢
  rw[List.append_assoc,List.append_assoc]
  conv=>lhs;rw[leb_drop hb (show i+8≤bs.length by omega),leb_drop hb (show i+8+4≤bs.length by omega),ih]
  rw[show i+12*(n+1)=i+12+12*n by omega]
theorem words_back{bs:List Int}(hb:Bytes bs):∀(n i:Nat),i+8*n≤bs.length→bs.drop i=(Qre bs i n).flatMap (fun x=>leb x 8)++bs.drop (i+8*n)
 | 0,i,h=>rfl
 | n+1,i,h=>by
  have ih:=words_back hb n (i+8) (by omega)
  rw[wordsL_front,List.flatMap_cons,List.append_assoc]
  conv=>lhs;rw[leb_drop hb (show i+8≤bs.length by omega),ih]
  rw[show i+8*(n+1)=i+8+8*n by omega]
def footB(u:Int)(t:List Ent):List Int:=[4]++leb t.length 4++leb u 4++t.flatMap ent++(Qoz t).flatMap (fun x=>leb x 8)
theorem footB_bytes(u:Int)(l:List Ent):Bytes (footB u l):=by
 refine Bytes.app (Bytes.app (Bytes.app (Bytes.app ?_ (Qvy 4 _)) (Qvy 4 _)) (Qwm _ Qwl l)) (Qwm _ (fun x=>Qvy 8 x) _)
 intro y hy
 rcases List.mem_singleton.1 hy with rfl
 omega
theorem footG_sound{bs:List Int}(hb:Bytes bs){u:Int}{t:List Ent}(h:Qse bs=some (u,t,Qoz t)):bs=footB u t:=by
 unfold Qse at h
 split at h
 ·rename_i h1
  split at h
  ·rename_i h2
   split at h
   ·have h3:=Option.some.inj h
    have eu:=congrArg Prod.fst h3
    have et:=congrArg (fun p=>p.2.1) h3
    have ew:=congrArg (fun p=>p.2.2) h3
    dsimp only at eu et ew
    have hlen:=congrArg List.length et
    rw[Qrl]at hlen
    have hl4:=(leI_range (((hb.drop 1).take 4))).1
    generalize hn:(leI ((bs.drop 1).take 4)).toNat=n at *
    have hnv:leI ((bs.drop 1).take 4)=(t.length:Int):=by omega
    have d0:bs=rd bs 0 :: bs.drop 1:=Qwo (i:=0) (by omega)
    have d1:=leb_drop hb (show 1+4≤bs.length by omega)
    have d2:=leb_drop hb (show 5+4≤bs.length by omega)
    have d3:=ents_back hb n 9 (by omega)
    have d4:=words_back hb ((n+15)/16) (9+12*n) (by omega)
    rw[List.drop_eq_nil_of_le (show bs.length≤9+12*n+8*((n+15)/16)by omega),List.append_nil]at d4
    rw[et]at d3
    rw[ew]at d4
    rw[hnv]at d1
    rw[eu]at d2
    conv=>lhs;rw[d0,h1.2,d1,d2,d3,d4]
    unfold footB
    simp
   ·cases h
  ·cases h
 ·cases h
theorem fence_rise{t:List Ent}(hp:t.Pairwise (fun x y=>x.f0≤y.f0))(j:Nat)(h:j+1<(Qoz t).length):rd (Qoz t) (j:Int)≤rd (Qoz t) ((j+1:Nat):Int):=by
 have hl:=Qyl t
 have h1:(j+1)*16<t.length:=by omega
 have hk:∀i,i<(Qoz t).length→rd (Qoz t) (i:Int)=(Qjf t ((i*16:Nat):Int)).f0:=fun i hi=>by
  rw[rd_get hi]
  have h2:(Qoz t)[i]=Qoy t i:=by simp[Qoz]
  rw[h2]
  rfl
 rw[hk j (by omega),hk (j+1) h,rdE t (j*16) (by omega),rdE t ((j+1)*16) h1]
 exact List.pairwise_iff_getElem.1 hp (j*16) ((j+1)*16) (by omega) h1 (by omega)
theorem footG_compl{u:Int}{t:List Ent}(hu:0≤u∧u<4294967296)(hw:∀x∈t,wfE x)(hl:t.length≤1048576)(hr:Qpw t=true)(hp:t.Pairwise (fun x y=>x.f0≤y.f0)):Qse (footB u t)=some (u,t,Qoz t):=by
 have hfl:=Qyl t
 have hB:(footB u t).length=9+12*t.length+8*(Qoz t).length:=by
  have h:=Qqg (t.length:Int) u t
  rw[List.nil_append]at h
  exact h
 have hd0:(footB u t).drop 0=4 :: (leb (t.length:Int) 4++(leb u 4++(t.flatMap ent++((Qoz t).flatMap (fun x=>leb x 8)++[])))):=by
  rw[List.drop_zero]
  unfold footB
  simp
 generalize footB u t=bs at *
 obtain⟨_,hr0,hd1⟩:=Qwp hd0
 obtain⟨e1,hd5⟩:=drop_leb hd1
 obtain⟨e2,hd9⟩:=drop_leb hd5
 obtain⟨e3,hd10⟩:=ents_flat bs t (0+1+4+4) _ hw hd9
 obtain⟨e4,_⟩:=words_flat bs (Qoz t) _ [] (wf_fence t hw) hd10
 have hn:leI ((bs.drop 1).take 4)=(t.length:Int):=by rw[show bs.drop 1=bs.drop (0+1) from rfl,e1,Qxk 4 _ (by omega) (by omega)]
 have hu':leI ((bs.drop 5).take 4)=u:=by rw[show bs.drop 5=bs.drop (0+1+4) from rfl,e2,Qxk 4 _ hu.1 (by simpa using hu.2)]
 have e3':Qrj bs 9 t.length=t:=e3
 have e4':Qre bs (9+12*t.length) ((t.length+15)/16)=Qoz t:=by rw[hfl]at e4;exact e4
 have hs:=(Qsd (Qoz t) (by omega)).2 (fun j hj=>fence_rise hp j hj)
 unfold Qse
 rw[if_pos ⟨by omega,hr0⟩,hn,Int.toNat_natCast,hu',e3',e4',if_pos ⟨hl,by omega⟩,if_pos ⟨hr,hs⟩]
theorem sortE_f0(l:List Ent):(Qpj l).Pairwise (fun x y=>x.f0≤y.f0):=by
 refine(Qyp l).imp ?_
 intro x y h
 rw[Qpl]at h
 simp at h
 exact h.1
theorem foot_spec{c:List Int}{out:List Int}{e:Int}(h1:e=0→Bytes out∧out.length≤c.length∧c++[0]=Qnk out)(h2:∀b,Bytes b→c++[0]=Qnk b→e=0∧out=b){u:Int}{l:List Rec}{ps:List Int}(hu:0≤u∧u<4294967296)(hnd:(Qqi l ps).Nodup)(hwe:∀x∈Qqi l ps,wfE x∧x.f1<u)(hll:(Qqi l ps).length≤1000000) :
  Qta u l ps (getF e out)=true↔(Qqi l ps≠[]∧c++[0]=Qqe u (Qpj (Qqi l ps))):=by
 generalize hE:Qqi l ps=E at *
 have hsl:=Qpk E
 constructor
 ·intro h
  unfold getF at h
  by_cases he:e=0
  ·rw [if_pos he]at h
   obtain⟨hbo,_,hso⟩:=h1 he
   cases hG:Qse out with
   | none=>rw[hG]at h;cases h
   | some p =>
    obtain⟨u',t,x⟩:=p
    rw[hG]at h
    dsimp only at h
    by_cases hc:Qqb u' t=0∧x=Qoz t
    ·rw[if_pos hc]at h
     unfold Qta at h
     rw[hE]at h
     simp only[Bool.and_eq_true,decide_eq_true_eq]at h
     obtain⟨rfl,rfl⟩:=h
     obtain⟨hck,rfl⟩:=hc
     have hb:=footG_sound hbo hG
     refine⟨?_,by rw[hso,hb];rfl⟩
     rintro rfl
     have:Qqb u' (Qpj [])=4:=by
      unfold Qqb
      rw[if_pos (show(Qpj ([]:List Ent)).length=0 from hsl)]
     omega
    ·rw[if_neg hc]at h;cases h
  ·rw[if_neg he]at h;cases h
 ·rintro⟨hne,h⟩
  have hpos:0<E.length:=List.length_pos_iff.2 hne
  obtain⟨he,ho⟩:=h2 (footB u (Qpj E)) (footB_bytes _ _) h
  have hmem:∀x∈Qpj E,wfE x:=fun x hx=>(hwe x ((Qpt _).mem_iff.1 hx)).1
  have hG:=footG_compl hu hmem (by omega) (Qyr hnd) (sortE_f0 E)
  have hck:Qqb u (Qpj E)=0:=by
   unfold Qqb
   rw[if_neg (by omega),if_neg (by omega),Qyr hnd,if_neg (by decide),Qyt u (fun x hx=>(hwe x hx).2),if_neg (by decide)]
  unfold getF
  rw[if_pos he,ho,hG]
  dsimp only
  rw[if_pos ⟨hck,rfl⟩]
  unfold Qta
  rw[hE]
  simp
theorem snocInd{α:Type}{p:List α→Prop}(h0:p [])(h1:∀l x,p l→p (l++[x]))(l:List α):p l:=by
 rw[← l.reverse_reverse]
 induction l.reverse with
 | nil=>exact h0
 | cons x t ih=>rw[List.reverse_cons];exact h1 _ _ ih
def offs(e s n:Int)(l:List Rec):List Int:=(List.range l.length).map (fun i=>((partB e s n (l.take i)).2.1.length:Int))
theorem offs_length(e s n:Int)(l:List Rec):(offs e s n l).length=l.length:=by simp[offs]
theorem offs_snoc(e s n:Int)(l:List Rec)(r:Rec):offs e s n (l++[r])=offs e s n l++[((partB e s n l).2.1.length:Int)]:=by
 unfold offs
 rw[List.length_append,List.length_singleton,List.range_succ,List.map_append,List.map_singleton,List.take_left]
 congr 1
 refine List.map_congr_left fun i hi=>?_
 rw[List.mem_range]at hi
 rw[List.take_append_of_le_length (by omega)]
theorem offs_at(e s n:Int)(l:List Rec)(i:Nat)(h:i<l.length):rd (offs e s n l) (i:Int)=((partB e s n (l.take i)).2.1.length:Int):=by
 rw[rd_get (by rw[offs_length];exact h)]
 simp[offs]
theorem part_snoc(e s n:Int)(l:List Rec)(r:Rec):partB e s n (l++[r])=putB e s n (partB e s n l) r:=fillB_snoc e s n l _ r
theorem part_ok(e s n:Int)(l:List Rec):((partB e s n l).2.1.length:Int)≤16777216→okB e s n l.length (partB e s n l)∧(partB e s n l).2.2=Qqi l (offs e s n l):=by
 refine snocInd (p:=fun l=>((partB e s n l).2.1.length:Int)≤16777216→okB e s n l.length (partB e s n l)∧(partB e s n l).2.2=Qqi l (offs e s n l)) (fun _=>⟨Qys e s n 0,rfl⟩) (fun l r ih h=>?_) l
 have hl:(partB e s n (l++[r])).2.1=(partB e s n l).2.1++Qvm r:=by rw[part_snoc];rfl
 rw[hl,List.length_append]at h
 have hf:0<(Qvm r).length:=by unfold Qvm Qnk;simp
 obtain⟨⟨b1,b2,b3,b4,b5⟩,b6⟩:=ih (by omega)
 have hm:((partB e s n l).2.1.length:Int)%4294967296=((partB e s n l).2.1.length:Int):=by omega
 have h2:(partB e s n (l++[r])).2.2=(partB e s n l).2.2++[⟨Qma 0 (bytesOf r.f2),((partB e s n l).2.1.length:Int)⟩]:=by
  rw[part_snoc]
  unfold putB
  rw[hm]
 have hr:=Qxl (bytesOf r.f2)
 refine⟨⟨?_,?_,?_,?_,?_⟩,?_⟩
 ·rw[part_snoc]
  simp[putB]
 ·rw[h2,List.length_append,List.length_append]
  simp only[List.length_singleton]
  omega
 ·intro x hx
  rw[h2]at hx
  rw[hl,List.length_append]
  rcases List.mem_append.1 hx with hx|hx
  ·have:=b3 x hx
   exact⟨this.1,by omega⟩
  ·rcases List.mem_singleton.1 hx with rfl
   exact⟨⟨hr,by dsimp only;omega,by dsimp only;omega⟩,by dsimp only;omega⟩
 ·rw[h2,List.pairwise_append]
  refine⟨b4,List.pairwise_singleton _ _,?_⟩
  intro x hx y hy
  rcases List.mem_singleton.1 hy with rfl
  exact(b3 x hx).2
 ·rw[hl,List.length_append]
  omega
 ·rw[h2,b6,offs_snoc]
  unfold Qqi
  rw[List.zipWith_append (by rw[offs_length])]
  rfl
theorem frames_count:∀l:List Rec,l.length≤(l.flatMap Qvm).length
 | []=>Nat.zero_le _
 | r :: l=>by
  have:=frames_count l
  have hf:0<(Qvm r).length:=by unfold Qvm Qnk;simp
  rw[List.flatMap_cons,List.length_append,List.length_cons]
  omega
theorem seal_form{b:List Int}(hb:Bytes b):∃z,Qnk b=z++[0]∧Free z:=⟨_,rfl,(Qvs _ _ (Nat.le_refl _) (hb.app (Qvy 8 _))).1⟩
theorem seal_chunk{b:List Int}(hb:Bytes b){a x y:List Int}(ha:Free a)(h:a++0 :: x=Qnk b++y):a++[0]=Qnk b∧x=y:=by
 obtain⟨z,hz,hf⟩:=seal_form hb
 rw[hz,List.append_assoc]at h
 obtain⟨rfl,rfl⟩:=Qvx ha hf h
 exact⟨hz.symm,rfl⟩
theorem seal_not_free{b:List Int}{a y:List Int}(ha:Free a):a≠Qnk b++y:=by
 intro h
 have h0:(0:Int)∈a:=by rw[h];exact List.mem_append_left _ (Qwa _)
 exact ha 0 h0 rfl
theorem all_ff{R:List Int}:Qtd R=true↔∃m,R=List.replicate m 255:=by
 unfold Qtd
 rw[List.all_eq_true]
 constructor
 ·intro h
  refine⟨R.length,List.eq_replicate_iff.2 ⟨rfl,fun x hx=>by simpa using h x hx⟩⟩
 ·rintro⟨m,rfl⟩ x hx
  rw[List.eq_of_mem_replicate hx]
  rfl
def ScanEnds(e s n:Int)(l:List Rec)(R:List Int)(res:Option (List Rec × List Int × Nat × Bool)):Prop :=
 (res=some (l,offs e s n l,(partB e s n l).2.1.length,false)∧∃m,R=List.replicate m 255) ∨
 (res=some (l,offs e s n l,(partB e s n l).2.1.length,true)∧l≠[]∧∃m,R=Qqe ((partB e s n l).2.1.length:Int) (Qpj (partB e s n l).2.2)++List.replicate m 255) ∨
 (res=none∧(∀m,R≠List.replicate m 255)∧(l≠[]→∀m,R≠Qqe ((partB e s n l).2.1.length:Int) (Qpj (partB e s n l).2.2)++List.replicate m 255))
theorem scan_spec(e s n:Int)(k:Nat)(t:List Int)(ht:Bytes t)(htl:t.length≤1000000)(hk:t.length+5≤k):∀(f:Nat) (l:List Rec) (R:List Int),R.length<f→(∀r∈l,okR r)→t=(partB e s n l).2.1++R →
  ∃l' R' res,Qub k t f l (offs e s n l) (partB e s n l).2.1.length=some res∧(∀r∈l',okR r)∧t=(partB e s n l').2.1++R'∧Qwj R'∧ScanEnds e s n l' R' res:=by
 intro f
 induction f with
 | zero=>intro l R h;omega
 | succ f ih =>
  intro l R hf hl hR
  have hlen:=congrArg List.length hR
  rw[List.length_append]at hlen
  have hRb:Bytes R:=fun x hx=>ht x (by rw[hR];exact List.mem_append_right _ hx)
  have hdrop:t.drop (partB e s n l).2.1.length=R:=by
   conv=>lhs;rw[hR]
   rw[List.drop_left]
  obtain⟨⟨b1,b2,b3,b4,b5⟩,b6⟩:=part_ok e s n l (by omega)
  have hcnt:=frames_count l
  have hpf:=congrArg List.length (part_frames e s n l)
  rw[List.length_append]at hpf
  unfold Qub
  rw[hdrop]
  rcases Qvq R with hfr |⟨a,b,rfl,hfa⟩
  ·rw[Qnv hRb hfr,if_pos (by decide)]
   refine⟨l,R,_,rfl,hl,hR,fun r x hr he=>seal_not_free hfr he,?_⟩
   by_cases hff:Qtd R=true
   ·rw[if_pos hff]
    exact .inl ⟨rfl,all_ff.1 hff⟩
   ·rw[if_neg hff]
    exact .inr (.inr ⟨rfl,fun m hm=>hff (all_ff.2 ⟨m,hm⟩),fun _ m hm=>seal_not_free hfr hm⟩)
  ·have hba:Bytes a:=fun x hx=>hRb x (List.mem_append_left _ hx)
   rw[List.length_append,List.length_cons]at hlen hf
   rw[Qnw hba hfa,if_neg (by omega),Int.toNat_natCast,List.take_left]
   obtain⟨r1,r2,r3,r4,r5,g1,g2,g3⟩:=Qxn hba hfa (by omega) k (by omega)
   rw[g1,Option.bind_some]
   dsimp only
   by_cases h5:r5=0
   ·obtain⟨g4,g5⟩:=g2 h5
    have hch:=Qnf g4.1
    dsimp only at hch
    rw[if_pos h5,if_pos (by omega),← offs_snoc e s n l ⟨r1,r2,r3,r4⟩]
    have hpp:(partB e s n (l++[⟨r1,r2,r3,r4⟩])).2.1=(partB e s n l).2.1++(a++[0]):=by rw[part_snoc,g5];rfl
    have hpl:(partB e s n l).2.1.length+a.length+1=(partB e s n (l++[⟨r1,r2,r3,r4⟩])).2.1.length:=by
     rw[hpp,List.length_append,List.length_append,List.length_singleton];omega
    rw[hpl]
    refine ih _ b (by omega) ?_ (by rw[hpp,hR];simp)
    intro r hr
    rcases List.mem_append.1 hr with hr|hr
    ·exact hl r hr
    ·rcases List.mem_singleton.1 hr with rfl
     exact g4
   ·obtain⟨out,e0,o1,o2,o3⟩:=Qxm hba hfa (by omega) k (by omega)
    rw[if_neg h5,o1,Option.bind_some]
    dsimp only
    rw[if_pos (fun h=>⟨(o2 h).1,by have:=(o2 h).2.1;omega⟩)]
    have hent:(Qqi l (offs e s n l)).length=l.length:=Qqj l _ (offs_length e s n l)
    have hne:Qqi l (offs e s n l)≠[]↔l≠[]:=by
     rw[← List.length_pos_iff,← List.length_pos_iff,hent]
    have hfs:=foot_spec o2 o3 (u:=((partB e s n l).2.1.length:Int)) (l:=l) (ps:=offs e s n l) ⟨by omega,by omega⟩ (by rw[← b6];exact Qyu b4) (by rw[← b6];exact b3) (by omega)
    rw[← b6]at hfs hne
    have hdb:t.drop ((partB e s n l).2.1.length+a.length+1)=b:=by
     rw[Nat.add_assoc,← List.drop_drop,hdrop,← List.drop_drop,List.drop_left]
     rfl
    rw[hdb]
    have hnr:Qwj (a++0 :: b):=fun r x hr he=>h5 (g3 r hr (seal_chunk (Qwh hr) hfa he).1).1
    have hn0:∀m,a++0 :: b≠List.replicate m 255:=fun m hm=>by
     have h0:(0:Int)∈List.replicate m (255:Int):=by rw[← hm];simp
     have:=List.eq_of_mem_replicate h0
     omega
    refine⟨l,a++0 :: b,_,rfl,hl,hR,hnr,?_⟩
    by_cases hcl:Qta ((partB e s n l).2.1.length:Int) l (offs e s n l) (getF e0 out)=true∧Qtd b=true
    ·rw[if_pos hcl]
     obtain⟨q1,q2⟩:=hfs.1 hcl.1
     obtain⟨m,hm⟩:=all_ff.1 hcl.2
     refine .inr (.inl ⟨rfl,hne.1 q1,m,?_⟩)
     rw[← q2,hm]
     simp
    ·rw[if_neg hcl]
     refine .inr (.inr ⟨rfl,hn0,fun hl0 m hm=>hcl ?_⟩)
     obtain⟨q3,q4⟩:=seal_chunk (footB_bytes _ _) hfa hm
     exact⟨hfs.2 ⟨hne.2 hl0,q3⟩,all_ff.2 ⟨m,q4⟩⟩
end Go.Proofs.YtnnofopfbeklbaaGreat.CodecP
end
