/- Texts of this claim's author and of the print of its functions, merged by merge.py. -/
import Derived.Test.YtnnofopfbeklbaaGreatMH35
import Derived.Test.YtnnofopfbeklbaaGreatMH31
import Derived.Test.YtnnofopfbeklbaaGreatMH22
import Derived.Test.YtnnofopfbeklbaaGreatMH21
import Derived.Test.YtnnofopfbeklbaaGreatMH23
import Derived.Test.YtnnofopfbeklbaaGreatMH28
set_option linter.unusedVariables false
set_option linter.unusedSimpArgs false
set_option maxHeartbeats 8000000
set_option maxRecDepth 100000
section
namespace Go.Proofs.YtnnofopfbeklbaaGreat.CodecP
open Go.RowKit Go.Proofs.YtnnofopfbeklbaaGreat.C Go.Proofs.YtnnofopfbeklbaaGreatW.PrintWords Go.Proofs.YtnnofopfbeklbaaGreatW.PrintLast Go.Proofs.YtnnofopfbeklbaaGreatW.PrintMore
theorem Qxa:Bytes []:=fun x hx=>nomatch hx
def unsF:Nat→List Int→Option (List Int)
 | _,[]=>some []
 | 0,_ :: _=>none
 | k+1,c :: t=>if t.length+1<c.toNat then none else(unsF k (t.drop (c.toNat-1))).map (fun d=>t.take (c.toNat-1)++(if c<255∧t.drop (c.toNat-1)≠[]then 0 :: d else d))
theorem Qxb(k:Nat):unsF k []=some []:=by cases k<;>rfl
theorem Qxc:∀(n:Nat) (b:List Int) (k:Nat),b.length≤n→Bytes b→(Qkw b).length≤k→unsF k (Qkw b)=some b
 | n,b,k,hn,hb,hk=>by
  rcases Qvr hb with⟨a,r,rfl,hf,hl,e⟩ |⟨a,r,rfl,hf,hl,hr,e⟩ |⟨hf,hl,e⟩
  ·rw[List.length_append,List.length_cons]at hn
   rw[e,List.length_cons,List.length_append]at hk
   match n,k,hn,hk with
   | n+1,k+1,hn,hk =>
    have ih:=Qxc n r k (by omega) hb.right.tail (by omega)
    have hs:=Qvs _ r (Nat.le_refl _) hb.right.tail
    have hc:((a.length:Int)+1).toNat-1=a.length:=by omega
    rw[e,unsF,hc,List.take_left' rfl,List.drop_left' rfl,if_neg (by rw[List.length_append];omega),ih,Option.map_some,if_pos ⟨by omega,hs.2.2⟩]
  ·rw[List.length_append]at hn
   rw[e,List.length_cons,List.length_append]at hk
   match n,k,hn,hk with
   | 0,k,hn,hk=>omega
   | n+1,k+1,hn,hk =>
    have ih:=Qxc n r k (by omega) hb.right (by omega)
    have hc:(255:Int).toNat-1=a.length:=by omega
    rw[e,unsF,hc,List.take_left' rfl,List.drop_left' rfl,if_neg (by rw[List.length_append];omega),ih,Option.map_some,if_neg (fun h=>by omega)]
  ·rw[e,List.length_cons]at hk
   obtain⟨k,rfl⟩:∃m,k=m+1:=⟨k-1,by omega⟩
   have hc:((b.length:Int)+1).toNat-1=b.length:=by omega
   rw[e,unsF,hc,List.take_of_length_le (Nat.le_refl _),List.drop_of_length_le (Nat.le_refl _),if_neg (by omega),Qxb,Option.map_some,if_neg (fun h=>h.2 rfl),List.append_nil]
def unsR(acc rest c:List Int)(j:Nat):List Int × Int:=match unsF j rest with
 | none=>([],2)
 | some d=>if Qkw (acc++d)=c then(acc++d,0)else([],4)
theorem Qxd(c:List Int)(hc:Bytes c)(hcl:c.length≤1000000000):∀(j k:Nat) (acc rest:List Int),rest.length≤j→Bytes rest→Free rest→Bytes acc→acc.length+rest.length≤c.length→j+2≤k→Qan.l0 k c acc rest=some (unsR acc rest c j)
 | j,k+1,acc,[],hj,hb,hf,ha,hl,hk=>by
  have hs:=Qvs _ acc (Nat.le_refl _) ha
  unfold Qan.l0 unsR
  rw[Qxb]
  dsimp only
  rw[if_neg (by simp),List.append_nil]
  unfold Qam.f
  rw[if_pos (by simp at hl;omega),Option.bind_some]
  unfold Qad.f
  rw[Option.bind_some]
  by_cases he:Qkw acc=c
  ·rw[if_pos he,if_pos (by rw[he];exact beq_self_eq_true _)]
  ·rw[if_neg he,if_neg (by
    intro h
    exact he ((Qtz hs.2.1 hc).1 (beq_iff_eq.1 h)))]
 | j + 1,k+1,acc,x :: t,hj,hb,hf,ha,hl,hk=>by
  have hx:=hb x (List.mem_cons_self ..)
  have hx0:=hf x (List.mem_cons_self ..)
  have hw:wrap64 x=x:=by unfold wrap64;omega
  have hrd:rd (x :: t) 0=x:=rfl
  obtain⟨m,hm⟩:∃m:Nat,x=(m:Int)+1:=⟨x.toNat-1,by omega⟩
  have hxt:x.toNat=m+1:=by omega
  unfold Qan.l0
  rw[hrd,hw,if_pos (by simp only[List.length_cons];omega),if_pos (by simp only[List.length_cons];omega)]
  by_cases hsh:t.length<m
  ·rw[if_pos (by simp only[List.length_cons];omega)]
   unfold unsR
   rw[unsF,hxt,if_pos (by omega)]
  ·have e1:((x :: t).take (m+1)).drop 1=t.take m:=by simp
   have e2:(x :: t).drop (m+1)=t.drop m:=by simp
   have hlt:(t.take m).length=m:=by rw[List.length_take];omega
   simp only[List.length_cons]at hj hl
   have hba:Bytes (acc++t.take m):=ha.app (hb.tail.take m)
   have hbt:Bytes (t.drop m):=hb.tail.drop m
   have hft:Free (t.drop m):=fun y hy=>hf y (List.mem_cons_of_mem _ (List.mem_of_mem_drop hy))
   have hdl:(t.drop m).length=t.length-m:=List.length_drop
   rw[if_neg (by simp only[List.length_cons];omega),if_pos (by omega),if_pos (by simp only[List.length_cons];omega),hxt,e1,e2,Option.bind_some,hlt,if_pos (by omega),Option.bind_some,if_pos (by omega),Option.bind_some]
   have hu:∀(z:List Int) (hz:z=if x<255∧t.drop m≠[]then [0]else []),unsR acc (x :: t) c (j+1)=unsR (acc++t.take m++z) (t.drop m) c j:=by
    intro z hz
    unfold unsR
    rw[unsF,hxt,if_neg (by omega),Nat.add_sub_cancel]
    cases unsF j (t.drop m)with
    | none=>rfl
    | some d =>
     simp only[Option.map_some]
     have:acc++(t.take m++(if x<255∧t.drop m≠[]then 0 :: d else d))=acc++t.take m++z++d:=by
      rw[hz]
      by_cases h:x<255∧t.drop m≠[]
      ·rw[if_pos h,if_pos h];simp
      ·rw[if_neg h,if_neg h];simp
     rw[this]
   by_cases h254:x≤254
   ·rw[if_pos h254]
    by_cases hne:t.drop m=[]
    ·rw[if_neg (by rw[hne];simp),Qxd c hc hcl j k _ _ (by omega) hbt hft hba (by rw[List.length_append,hlt,hdl];omega) (by omega),hu [] (by rw[if_neg (fun h=>h.2 hne)]),List.append_nil]
    ·have hpos:0<(t.drop m).length:=List.length_pos_iff.2 hne
     rw[if_pos (by omega),if_pos (by rw[List.length_append,hlt];omega),Qxd c hc hcl j k _ _ (by omega) hbt hft (hba.app (fun y hy=>by rw[List.mem_singleton.1 hy];omega)) (by rw[List.length_append,List.length_append,hlt,hdl,List.length_singleton];omega) (by omega),hu [0] (by rw[if_pos ⟨by omega,hne⟩])]
   ·rw[if_neg h254,Qxd c hc hcl j k _ _ (by omega) hbt hft hba (by rw[List.length_append,hlt,hdl];omega) (by omega),hu [] (by rw[if_neg (fun h=>by omega)]),List.append_nil]
theorem Qxe{c:List Int}(hc:Bytes c)(hf:Free c)(hcl:c.length≤1000000000)(k:Nat)(hk:c.length+5≤k):Qan.f k c=some (if c=[]then([],2)else unsR [] c c c.length):=by
 unfold Qan.f Qae.f
 rw[Option.bind_some,Qnv hc hf,if_neg (by decide)]
 by_cases h:c=[]
 ·rw[if_pos h,if_pos (by rw[h];rfl)]
 ·rw[if_neg h,if_neg (fun e=>h (List.length_eq_zero_iff.1 (by omega)))]
  exact Qxd c hc hcl c.length k [] c (Nat.le_refl _) hc hf (fun x hx=>by cases hx) (by simp) (by omega)
theorem Qxf{c:List Int}{out:List Int}{e:Int}(h:unsR [] c c c.length=(out,e)):e=0→Qkw out=c:=by
 intro he
 unfold unsR at h
 cases hu:unsF c.length c with
 | none=>rw[hu]at h;cases h;cases he
 | some d =>
  rw[hu]at h
  dsimp only at h
  by_cases hs:Qkw ([]++d)=c
  ·rw[if_pos hs]at h
   cases h
   exact hs
  ·rw[if_neg hs]at h
   cases h
   cases he
theorem Qxg:∀(j:Nat) (rest d:List Int),Bytes rest→unsF j rest=some d→Bytes d∧d.length≤rest.length
 | j,[],d,hb,h=>by rw[Qxb]at h;cases h;exact⟨Qxa,Nat.le_refl _⟩
 | 0,_ :: _,d,hb,h=>by cases h
 | j+1,x :: t,d,hb,h=>by
  rw[unsF]at h
  split at h
  ·cases h
  ·obtain⟨d2,h2,rfl⟩:=Option.map_eq_some_iff.1 h
   obtain⟨h3,h4⟩:=Qxg j _ d2 (hb.tail.drop _) h2
   rw[List.length_drop]at h4
   rename_i hle
   have hx:=hb x (List.mem_cons_self ..)
   split
   ·refine⟨(hb.tail.take _).app (h3.cons ⟨by decide,by decide⟩),?_⟩
    rename_i hc
    have:0<(t.drop (x.toNat-1)).length:=List.length_pos_iff.2 hc.2
    rw[List.length_drop]at this
    rw[List.length_append,List.length_take,List.length_cons,List.length_cons]
    omega
   ·refine⟨(hb.tail.take _).app h3,?_⟩
    rw[List.length_append,List.length_take,List.length_cons]
    omega
theorem Qxh{c:List Int}(hc:Bytes c){out:List Int}{e:Int}(h:unsR [] c c c.length=(out,e)):Bytes out∧out.length≤c.length:=by
 unfold unsR at h
 cases hu:unsF c.length c with
 | none=>rw[hu]at h;cases h;exact⟨Qxa,Nat.zero_le _⟩
 | some d =>
  rw[hu]at h
  dsimp only at h
  split at h
  ·cases h;exact Qxg _ _ _ hc hu
  ·cases h;exact⟨Qxa,Nat.zero_le _⟩
theorem Qxi{b:List Int}(hb:Bytes b):unsR [] (Qkw b) (Qkw b) (Qkw b).length=(b,0):=by
 unfold unsR
 rw[Qxc _ b _ (Nat.le_refl _) hb (Nat.le_refl _)]
 dsimp only
 rw[List.nil_append,if_pos rfl]
theorem Qxj:∀(l:List Int),Bytes l→leb (leI l) l.length=l
 | [],_=>rfl
 | b :: l,h=>by
  have hb:=h b (List.mem_cons_self ..)
  have hr:=(leI_range h.tail).1
  simp only[List.length_cons,leb,leI]
  rw[show(b+256*leI l)%256=b by omega,show(b+256*leI l)/256=leI l by omega,Qxj l h.tail]
theorem Qxk:∀(n:Nat) (x:Int),0≤x→x<256^n→leI (leb x n)=x
 | 0,x,h0,h1=>by simp at h1;simp[leb,leI];omega
 | n+1,x,h0,h1=>by
  rw[Int.pow_succ]at h1
  simp only[leb,leI]
  rw[Qxk n (x/256) (by omega) (by omega)]
  omega
theorem Qxl(b:List Int):R64 (Qma 0 b):=by
 unfold Qma sumP
 split<;>(unfold finP;exact Qmx _ _ _)
theorem Qxm{c:List Int}(hc:Bytes c)(hf:Free c)(hcl:c.length≤1000000000)(k:Nat)(hk:c.length+5≤k) :
  ∃out e,Qch.f k c=some (out,e)∧(e=0→Bytes out∧out.length≤c.length∧c++[0]=Qnk out)∧(∀b,Bytes b→c++[0]=Qnk b→e=0∧out=b):=by
 have hsb:∀b,Bytes b→c++[0]=Qnk b→c=Qkw (b++leb (Qma 0 b) 8):=fun b hb h=>by
  unfold Qnk at h
  exact List.append_cancel_right h
 have hbl:∀b,Bytes b→Bytes (b++leb (Qma 0 b) 8):=fun b hb=>hb.app (Qvy 8 _)
 unfold Qch.f
 rw[Qxe hc hf hcl k hk,Option.bind_some]
 by_cases h0:c=[]
 ·rw[if_pos h0,if_neg (by decide)]
  refine⟨[],2,rfl,fun h=>absurd h (by decide),fun b hb h=>?_⟩
  have h1:=hsb b hb h
  rw[h0]at h1
  exact absurd h1.symm (Qvs _ _ (Nat.le_refl _) (hbl b hb)).2.2
 ·rw [if_neg h0]
  obtain⟨o,e0,ho⟩:∃o e0,unsR [] c c c.length=(o,e0):=⟨_,_,rfl⟩
  rw[ho]
  obtain⟨hbo,hlo⟩:=Qxh hc ho
  have hun:∀b,Bytes b→c++[0]=Qnk b→e0=0∧o=b++leb (Qma 0 b) 8:=fun b hb h=>by
   have h1:=hsb b hb h
   have h2:=Qxi (hbl b hb)
   rw[← h1,ho]at h2
   cases h2
   exact⟨rfl,rfl⟩
  dsimp only
  by_cases he:e0=0
  ·rw [if_pos he,if_pos ⟨hbo,by omega⟩]
   have hst:=Qxf ho he
   unfold Qso
   by_cases h8:o.length<8
   ·rw[if_pos h8]
    refine⟨[],2,rfl,fun h=>absurd h (by decide),fun b hb h=>?_⟩
    have h2:=(hun b hb h).2
    rw[h2,List.length_append,Qjl]at h8
    omega
   ·rw[if_neg h8]
    have hdl:(o.drop (o.length-8)).length=8:=by rw[List.length_drop];omega
    by_cases hh:leI (o.drop (o.length-8))=Qma 0 (o.take (o.length-8))
    ·rw[if_pos hh]
     refine⟨_,0,rfl,fun _=>⟨hbo.take _,by rw[List.length_take];omega,?_⟩,fun b hb h=>⟨rfl,?_⟩⟩
     ·unfold Qnk
      rw[← hh]
      have h3:=Qxj (o.drop (o.length-8)) (hbo.drop _)
      rw[hdl]at h3
      rw[h3,List.take_append_drop,hst]
     ·have h2:=(hun b hb h).2
      rw[h2,List.length_append,Qjl,Nat.add_sub_cancel,List.take_left' rfl]
    ·rw[if_neg hh]
     refine⟨[],5,rfl,fun h=>absurd h (by decide),fun b hb h=>?_⟩
     have h2:=(hun b hb h).2
     exfalso
     apply hh
     have hr:=Qxl b
     rw[h2,List.length_append,Qjl,Nat.add_sub_cancel,List.take_left' rfl,List.drop_left' rfl,Qxk 8 _ hr.1 (by have:=hr.2;simpa using this)]
  ·rw[if_neg he]
   exact⟨[],e0,rfl,fun h=>absurd h he,fun b hb h=>absurd (hun b hb h).1 he⟩
theorem Qxn{c:List Int}(hc:Bytes c)(hf:Free c)(hcl:c.length≤1000000000)(k:Nat)(hk:c.length+5≤k) :
  ∃r1 r2 r3 r4 r5,Qcg.f k c=some (r1,r2,r3,r4,r5)∧(r5=0→okR (⟨r1,r2,r3,r4⟩:Rec)∧c++[0]=Qvm (⟨r1,r2,r3,r4⟩:Rec))∧(∀r',okR r'→c++[0]=Qvm r'→r5=0∧(⟨r1,r2,r3,r4⟩:Rec)=r'):=by
 obtain⟨out,e,ho,h1,h2⟩:=Qxm hc hf hcl k hk
 unfold Qcg.f
 rw[ho,Option.bind_some]
 dsimp only
 by_cases he:e=0
 ·obtain⟨hbo,hlo,hso⟩:=h1 he
  rw[if_pos he]
  unfold Qcl.f
  rw[if_pos ⟨hbo,by omega⟩]
  cases hr:recL out with
  | ok p =>
   obtain⟨⟨d,q,a,b⟩,i⟩:=p
   obtain⟨e1,e2,e3,e4⟩:=Qwy hbo hr
   refine⟨d,q,a,b,0,rfl,fun _=>⟨⟨e2,e3,e4⟩,?_⟩,fun r' hr' hfr=>⟨rfl,?_⟩⟩
   ·rw[hso,e1]
    rfl
   ·have h3:=(h2 _ (Qwh hr') hfr).2
    obtain⟨i2,h4⟩:=Qwz hr'.2.1 hr'.2.2 hr'.1
    rw[← h3,hr]at h4
    cases h4
    rfl
  | error p =>
   obtain⟨er,i⟩:=p
   refine⟨_,_,_,_,er,rfl,fun h=>absurd h (Qtw hr),fun r' hr' hfr=>?_⟩
   have h3:=(h2 _ (Qwh hr') hfr).2
   obtain⟨i2,h4⟩:=Qwz hr'.2.1 hr'.2.2 hr'.1
   rw[← h3,hr]at h4
   cases h4
 ·rw[if_neg he]
  exact⟨_,_,_,_,e,rfl,fun h=>absurd h he,fun r' hr' hfr=>absurd (h2 _ (Qwh hr') hfr).1 he⟩
theorem Qxo(a b:ByteArray):a.toList=b.toList↔bytesOf a=bytesOf b:=by
 constructor
 ·intro h
  unfold bytesOf
  rw[Lib.toList_data,Lib.toList_data]at h
  rw[h]
 ·intro h
  rw[Qns h]
theorem Qxp{x:Int}(h:0≤x∧x<256):wrap64 x=x:=by unfold wrap64;omega
theorem Qxq(s:ByteArray)(hs:s.size≤1000000000)(hf:Free (bytesOf s)):∀(d i k:Nat),i+d=s.size→Qbj.l0 (k+d+1) s (i:Int)=if s.size=0 then some ((⟨#[]⟩:ByteArray),2)else Qbj.l1 k s (⟨#[]⟩:ByteArray) s
 | 0,i,k,hd=>by
  unfold Qbj.l0
  rw[if_neg (by omega)]
  by_cases h:s.size=0
  ·rw[if_pos ((size_nil_iff s).2 h),if_pos h]
  ·rw[if_neg (fun e=>h ((size_nil_iff s).1 e)),if_neg h]
 | d+1,i,k,hd=>by
  have hi:i<(bytesOf s).length:=by rw[Qdf];omega
  have hz:bt s (i:Int)≠0:=by
   rw[Qob,rd_get hi]
   exact hf _ (List.getElem_mem hi)
  unfold Qbj.l0
  rw[if_pos (by omega),if_pos (by omega),if_neg hz,Qoc i (by omega)]
  exact Qxq s hs hf d (i+1) k (by omega)
theorem Qxr(s:ByteArray)(hs:s.size≤1000000000):∀(j k:Nat) (a r:ByteArray),r.size≤j→Free (bytesOf r)→a.size+r.size≤s.size→j+2*s.size+10≤k →
  ∃o e,Qbj.l1 k s a r=some (o,e)∧unsR (bytesOf a) (bytesOf r) (bytesOf s) j=(bytesOf o,e):=by
 intro j
 induction j with
 | zero =>
  intro k a r hj hf hl hk
  obtain⟨k,rfl⟩:∃m,k=m+1:=⟨k-1,by omega⟩
  have hr:bytesOf r=[]:=List.eq_nil_of_length_eq_zero (by rw[Qdf];omega)
  obtain⟨o1,h1,h2⟩:=Qog a k (by omega) (by omega)
  unfold Qbj.l1 unsR
  rw[if_pos ((size_nil_iff r).2 (by omega)),h1,Option.bind_some,hr,Qxb]
  dsimp only
  rw[List.append_nil,← h2]
  by_cases he:bytesOf o1=bytesOf s
  ·rw[if_pos ((Qxo _ _).2 he),if_pos he]
   exact⟨_,_,rfl,rfl⟩
  ·rw[if_neg (fun h=>he ((Qxo _ _).1 h)),if_neg he]
   exact⟨_,_,rfl,rfl⟩
 | succ j ih =>
  intro k a r hj hf hl hk
  obtain⟨k,rfl⟩:∃m,k=m+1:=⟨k-1,by omega⟩
  have hrl:=Qdf r
  rcases hrc:bytesOf r with _ |⟨x,t⟩
  ·obtain⟨o1,h1,h2⟩:=Qog a k (by omega) (by omega)
   unfold Qbj.l1 unsR
   rw[if_pos ((size_nil_iff r).2 (by rw[← hrl,hrc];rfl)),h1,Option.bind_some,Qxb]
   dsimp only
   rw[List.append_nil,← h2]
   by_cases he:bytesOf o1=bytesOf s
   ·rw[if_pos ((Qxo _ _).2 he),if_pos he]
    exact⟨_,_,rfl,rfl⟩
   ·rw[if_neg (fun h=>he ((Qxo _ _).1 h)),if_neg he]
    exact⟨_,_,rfl,rfl⟩
  ·have hrb:Bytes (x :: t):=hrc ▸ Qmj r
   rw[hrc]at hrl hf
   rw[List.length_cons]at hrl
   have hx:=hrb x (List.mem_cons_self ..)
   have hx0:=hf x (List.mem_cons_self ..)
   have hbt:bt r 0=x:=by
    have h:=Qob r 0
    rw[hrc]at h
    exact h
   obtain⟨m,hm⟩:∃m:Nat,x=(m:Int)+1:=⟨x.toNat-1,by omega⟩
   have hxt:x.toNat=m+1:=by omega
   unfold Qbj.l1
   rw[if_neg (fun h=>by have:=(size_nil_iff r).1 h;omega),if_pos (by omega),hbt,Qxp hx,hxt]
   by_cases hsh:t.length<m
   ·rw[if_pos (by omega)]
    unfold unsR
    rw[unsF,hxt,if_pos (by omega)]
    exact⟨_,_,rfl,rfl⟩
   ·have e1:bytesOf (r.extract 1 (m+1))=t.take m:=by rw[Qmm,hrc];simp
    have e2:bytesOf (r.extract (m+1) r.size)=t.drop m:=by rw[Qnb,hrc];simp
    have z1:(r.extract 1 (m+1)).size=m:=by rw[Qmn,e1,List.length_take];omega
    have z2:(r.extract (m+1) r.size).size=t.length-m:=by rw[Qmn,e2,List.length_drop]
    have hft:Free (t.drop m):=fun y hy=>hf y (List.mem_cons_of_mem _ (List.mem_of_mem_drop hy))
    rw[if_neg (by omega),if_pos (by omega),if_pos (by omega),if_pos (by omega),if_pos (by omega)]
    have hu:∀(z:List Int) (hz:z=if x<255∧t.drop m≠[]then [0]else []),unsR (bytesOf a) (x :: t) (bytesOf s) (j+1)=unsR (bytesOf a++t.take m++z) (t.drop m) (bytesOf s) j:=by
     intro z hz
     unfold unsR
     rw[unsF,hxt,if_neg (by omega),Nat.add_sub_cancel]
     cases unsF j (t.drop m)with
     | none=>rfl
     | some d =>
      simp only[Option.map_some]
      have:bytesOf a++(t.take m++(if x<255∧t.drop m≠[]then 0 :: d else d))=bytesOf a++t.take m++z++d:=by
       rw[hz]
       by_cases h:x<255∧t.drop m≠[]
       ·rw[if_pos h,if_pos h];simp
       ·rw[if_neg h,if_neg h];simp
      rw[this]
    by_cases h254:x<255
    ·rw[if_pos h254]
     by_cases hne:t.drop m=[]
     ·have hz0:(r.extract (m+1) r.size).size=0:=by rw[Qmn,e2,hne];rfl
      rw[if_pos ((size_nil_iff _).2 hz0),hu [] (by rw[if_neg (fun h=>h.2 hne)]),List.append_nil,← e2,← e1,← Qnq]
      exact ih k _ _ (by omega) (by rw[e2];exact hft) qq_18 (by omega)
     ·have hpos:0<(t.drop m).length:=List.length_pos_iff.2 hne
      rw[List.length_drop]at hpos
      have hs0:((⟨#[0]⟩:ByteArray)).size=1:=rfl
      have hb0:bytesOf (⟨#[0]⟩:ByteArray)=[0]:=rfl
      rw[if_neg (fun h=>by have:=(size_nil_iff _).1 h;omega),if_pos qq_18,hu [0] (by rw[if_pos ⟨h254,hne⟩]),← e2,← e1,← hb0,← Qnq,← Qnq]
      exact ih k _ _ (by omega) (by rw[e2];exact hft) (by rw[ByteArray.size_append,ByteArray.size_append];omega) (by omega)
    ·rw[if_neg h254,hu [] (by rw[if_neg (fun h=>h254 h.1)]),List.append_nil,← e2,← e1,← Qnq]
     exact ih k _ _ (by omega) (by rw[e2];exact hft) qq_18 (by omega)
theorem Qxs(s:ByteArray)(hs:s.size≤1000000000)(hf:Free (bytesOf s))(k:Nat)(hk:4*s.size+20≤k) :
  ∃o e,Qbj.f k s=some (o,e)∧(if bytesOf s=[]then(([]:List Int),(2:Int))else unsR [] (bytesOf s) (bytesOf s) (bytesOf s).length)=(bytesOf o,e):=by
 obtain⟨m,rfl⟩:∃m,k=m+s.size+1:=⟨k-s.size-1,by omega⟩
 have h:=Qxq s hs hf s.size 0 m (by omega)
 unfold Qbj.f
 rw[show(0:Int)=((0:Nat):Int) from rfl,h]
 have hl:=Qdf s
 by_cases h0:s.size=0
 ·rw[if_pos h0,if_pos (List.eq_nil_of_length_eq_zero (by omega))]
  exact⟨_,_,rfl,rfl⟩
 ·rw[if_neg h0,if_neg (fun e=>by rw[e]at hl;exact h0 hl.symm)]
  obtain⟨o,e,h1,h2⟩:=Qxr s hs s.size m (⟨#[]⟩:ByteArray) s (Nat.le_refl _) hf (by show 0+s.size≤s.size;omega) (by omega)
  rw[hl]
  exact⟨o,e,h1,h2⟩
theorem Qxt{k:Nat}(s:ByteArray)(h:s.size≤8)(hk:20≤k):Qay.f k s=some (leI (bytesOf s)):=by
 rw[← Qmo s h]
 exact Qdl (g:=fun k=>Qay.f k s) (Qay.mono _) (by omega) (Qkh _ (by omega))
theorem Qxu(s:ByteArray)(hs:s.size≤1000000000)(hf:Free (bytesOf s))(k:Nat)(hk:4*s.size+200≤k) :
  ∃o e,Qbr.f k s=some (o,e)∧Qch.f k (bytesOf s)=some (bytesOf o,e)∧o.size≤s.size:=by
 obtain⟨o,e,h1,h2⟩:=Qxs s hs hf k (by omega)
 have hsl:=Qdf s
 have hos:o.size≤s.size:=by
  rw[Qmn,Qmn s]
  by_cases h0:bytesOf s=[]
  ·rw[if_pos h0]at h2
   have:=congrArg Prod.fst h2
   dsimp only at this
   rw[← this]
   exact Nat.zero_le _
  ·rw[if_neg h0]at h2
   exact(Qxh (Qmj s) h2).2
 unfold Qbr.f Qch.f
 rw[h1,Qxe (Qmj s) hf (by omega) k (by omega),h2,Option.bind_some,Option.bind_some]
 dsimp only
 have hol:=Qdf o
 by_cases he:e=0
 ·have hbl:Bytes (bytesOf o)∧(bytesOf o).length≤35184372088824:=⟨Qmj o,by omega⟩
  rw[if_pos he,if_pos he,if_pos hbl]
  unfold Qso
  by_cases h8:o.size<8
  ·rw[if_pos (by unfold wrap64;omega),if_pos (by omega)]
   exact⟨_,_,rfl,rfl,Nat.zero_le _⟩
  ·have hw:wrap64 ((o.size:Int)-8)=((o.size-8:Nat):Int):=by unfold wrap64;omega
   have z0:(o.extract 0 (o.size-8)).size=o.size-8:=by simp
   have b0:bytesOf (o.extract 0 (o.size-8))=(bytesOf o).take (o.size-8):=by rw[Qmm];simp
   rw[hw,if_neg (show ¬((o.size-8:Nat):Int)<0 by omega),if_neg (show ¬(bytesOf o).length<8 by omega),if_pos (show 0≤((o.size-8:Nat):Int)by omega),if_pos (show((o.size-8:Nat):Int)≤(o.size:Int)by omega),Int.toNat_natCast,Qxt _ (by rw[Qna];omega) (by omega),Option.bind_some,Qne 0 _ k ⟨Int.le_refl _,by decide⟩ (by omega) (by omega),Option.bind_some,Qnb,b0,hol]
   by_cases hh:leI ((bytesOf o).drop (o.size-8))=Qma 0 ((bytesOf o).take (o.size-8))
   ·rw[if_pos hh,if_pos hh]
    exact⟨_,_,rfl,by rw[b0],by omega⟩
   ·rw[if_neg hh,if_neg hh]
    exact⟨_,_,rfl,rfl,Nat.zero_le _⟩
 ·rw[if_neg he,if_neg he]
  exact⟨_,_,rfl,rfl,Nat.zero_le _⟩
theorem Qxv(k:Nat)(r:ByteArray)(p er n:Int)(he:er≠0):Qax.f (k+1) r p er n=some (r,p,er,(⟨#[]⟩:ByteArray)):=by
 unfold Qax.f
 rw[if_neg he]
 unfold Qax.j0
 dsimp only
 rw[if_pos rfl]
theorem Qxw(k:Nat)(r:ByteArray)(p:Int)(n:Nat)(h0:0<n)(h:n≤r.size):Qax.f (k+1) r p 0 (n:Int)=some (r.extract n r.size,wrap64 (p+(n:Int)),0,r.extract 0 n):=by
 unfold Qax.f
 rw[if_pos rfl]
 unfold Qax.j0
 dsimp only
 rw[if_neg (by simp;omega),if_neg (by omega),if_pos (by omega),if_pos (by omega),Int.toNat_natCast]
theorem Qxx(k:Nat)(r:ByteArray)(p:Int):Qax.f (k+1) r p 0 0=some (r,p,0,(⟨#[]⟩:ByteArray)):=by
 unfold Qax.f
 rw[if_pos rfl]
 unfold Qax.j0
 dsimp only
 rw[if_pos (by decide)]
theorem Qxy(k:Nat)(r:ByteArray)(p:Int)(n:Int)(h0:0<n)(h:(r.size:Int)<n):Qax.f (k+1) r p 0 n=some (r,p,2,(⟨#[]⟩:ByteArray)):=by
 unfold Qax.f
 rw[if_pos rfl]
 unfold Qax.j0
 dsimp only
 rw[if_neg (by simp;omega),if_pos (by omega)]
theorem Qxz(k:Nat)(r:ByteArray)(p x:Int)(t:List Int)(hk:20≤k)(h:bytesOf r=x :: t):∃r' p',Qav.f k r p 0 1=some (r',p',0,x)∧bytesOf r'=t:=by
 obtain⟨k,rfl⟩:∃m,k=m+1:=⟨k-1,by omega⟩
 have hl:=Qdf r
 rw[h,List.length_cons]at hl
 refine⟨r.extract 1 r.size,wrap64 (p+1),?_,by rw[Qnb,h];rfl⟩
 have b0:bytesOf (r.extract 0 1)=[x]:=by rw[Qmm,h];rfl
 unfold Qav.f
 rw[show(1:Int)=((1:Nat):Int) from rfl,Qxw k r p 1 (by omega) (by omega),Option.bind_some,Qxt _ (by simp;omega) (by omega),Option.bind_some,b0]
 simp[leI]
theorem Qya(k:Nat)(r:ByteArray)(p:Int)(hk:20≤k)(h:bytesOf r=[]):Qav.f k r p 0 1=some (r,p,2,0):=by
 obtain⟨k,rfl⟩:∃m,k=m+1:=⟨k-1,by omega⟩
 have hl:=Qdf r
 rw[h,List.length_nil]at hl
 unfold Qav.f
 rw[Qxy k r p 1 (by omega) (by omega),Option.bind_some]
 dsimp only
 rw[Qxt _ (by decide) (by omega),Option.bind_some]
 rfl
theorem Qyb(k:Nat)(r:ByteArray)(p er:Int)(hk:20≤k)(he:er≠0):Qav.f k r p er 1=some (r,p,er,0):=by
 obtain⟨k,rfl⟩:∃m,k=m+1:=⟨k-1,by omega⟩
 unfold Qav.f
 rw[Qxv k r p er 1 he,Option.bind_some]
 dsimp only
 rw[Qxt _ (by decide) (by omega),Option.bind_some]
 rfl
theorem Qyc(bs:List Int)(hb:Bytes bs):∀(n j i k:Nat) (x:Int) (r:ByteArray) (p:Int),n+j=9→0≤x→x<128^j→bs.drop i=bytesOf r→2*n+40≤k →
  match Qrp bs (n+1) (j:Int) (i:Int) x with
  | .ok (y,i1)=>∃(m:Nat) (r':ByteArray) (p':Int),i1=(m:Int)∧Qaz.l0 k x (128^j) (j:Int) r p 0=some (r',p',0,y)∧bs.drop m=bytesOf r'
  | .error (er,_)=>∃(r':ByteArray) (p':Int),er≠0∧Qaz.l0 k x (128^j) (j:Int) r p 0=some (r',p',er,0):=by
 intro n
 induction n with
 | zero =>
  intro j i k x r p hnj hx0 hx1 hd hk
  obtain⟨k,rfl⟩:∃m,k=m+2:=⟨k-2,by omega⟩
  have hj:j=9:=by omega
  subst hj
  have e9:(128:Int)^9=9223372036854775808:=by decide
  unfold Qrp Qaz.l0
  rw[if_pos (show((9:Nat):Int)<10 by decide)]
  by_cases hi:(i:Int)<(bs.length:Int)
  ·rw[if_pos hi]
   have hdr:=rd_range hb (show i<bs.length by omega)
   rw[Qwo (show i<bs.length by omega)]at hd
   obtain⟨r',p',h1,h2⟩:=Qxz (k+1) r p _ _ (by omega) hd.symm
   rw[h1,Option.bind_some]
   dsimp only
   rw[if_pos rfl,if_pos (show((9:Nat):Int)=9 from rfl)]
   unfold Qaz.j1
   by_cases c1:1<rd bs (i:Int)
   ·rw[if_pos ⟨rfl,c1⟩,if_pos (by simpa using c1)]
    refine⟨r',p',by decide,?_⟩
    unfold Qau.f
    rw[if_pos rfl,Option.bind_some]
   ·have ho:=Qwn 9 x (rd bs (i:Int)) (by omega) hx0 hx1 hdr.1 hdr.2 (fun _=>by omega)
    rw[if_neg (fun c=>c1 c.2),if_neg (show ¬decide (rd bs (i:Int) > 1)=true by simpa using c1),if_neg (show ¬rd bs (i:Int)≥128 by omega),if_neg (show ¬128≤rd bs (i:Int)by omega),ho]
    generalize rd bs (i:Int)=b at *
    have hmd:Int.tmod b 128=b%128:=Int.tmod_eq_emod_of_nonneg hdr.1
    rw[hmd,e9,Int.mul_comm (b%128),IntWalk.u64_in (9223372036854775808*(b%128)) (by omega),IntWalk.u64_in _ (by rw[e9]at hx1;omega)]
    by_cases c3:b=0
    ·rw[if_pos ⟨c3,by omega⟩,if_pos c3,if_pos (by omega)]
     refine⟨r',p',by decide,?_⟩
     unfold Qau.f
     rw[if_pos rfl,Option.bind_some]
    ·rw[if_neg (fun c=>c3 c.1),if_neg c3]
     exact⟨i+1,r',p',by push_cast;rfl,rfl,h2.symm⟩
  ·rw[if_neg hi]
   rw[List.drop_of_length_le (by omega)]at hd
   rw[Qya (k+1) r p (by omega) hd.symm,Option.bind_some]
   dsimp only
   rw[if_neg (by decide)]
   exact⟨r,p,by decide,rfl⟩
 | succ n ih =>
  intro j i k x r p hnj hx0 hx1 hd hk
  obtain⟨k,rfl⟩:∃m,k=m+2:=⟨k-2,by omega⟩
  have h8:=p128 j (by omega)
  have hpp:=Qwq j
  unfold Qrp Qaz.l0
  rw[if_pos (show((j:Nat):Int)<10 by omega)]
  by_cases hi:(i:Int)<(bs.length:Int)
  ·rw [if_pos hi]
   have hdr:=rd_range hb (show i<bs.length by omega)
   rw[Qwo (show i<bs.length by omega)]at hd
   obtain⟨r',p',h1,h2⟩:=Qxz (k+1) r p _ _ (by omega) hd.symm
   rw[h1,Option.bind_some]
   dsimp only
   rw[if_pos rfl,if_neg (show ¬(j:Int)=9 by omega)]
   unfold Qaz.j1
   have ho:=Qwn j x (rd bs (i:Int)) (by omega) hx0 hx1 hdr.1 hdr.2 (fun _=>by omega)
   rw[if_neg (show ¬((j:Int)=9∧1<rd bs (i:Int))by omega),if_neg (show ¬false=true by decide),ho]
   generalize rd bs (i:Int)=b at *
   have hm:(128:Int)^j*(b%128)≤128^j*127:=Int.mul_le_mul_of_nonneg_left (by omega) (by omega)
   have hm0:0≤(128:Int)^j*(b%128):=Int.mul_nonneg (by omega) (by omega)
   have hmd:Int.tmod b 128=b%128:=Int.tmod_eq_emod_of_nonneg hdr.1
   have hp:(128:Int)^(j+1)=128^j*128:=Int.pow_succ ..
   rw[hmd,Int.mul_comm (b%128),IntWalk.u64_in (128^j*(b%128)) (by omega),IntWalk.u64_in _ (by omega)]
   by_cases c2:128≤b
   ·rw[if_pos c2,if_pos (show b≥128 from c2),IntWalk.u64_in (128^j*128) (by omega),← hp,Qoc j (by omega)]
    have:=ih (j+1) (i+1) k (x+128^j*(b%128)) r' p' (by omega) (by omega) (by rw[hp];omega) h2.symm (by omega)
    push_cast at this ⊢
    exact this
   ·rw[if_neg c2,if_neg (show ¬b≥128 from c2)]
    by_cases c3:b=0
    ·by_cases hj:(0:Int)<(j:Int)
     ·rw[if_pos ⟨c3,hj⟩,if_pos c3,if_pos (show(j:Int) > 0 from hj)]
      refine⟨r',p',by decide,?_⟩
      unfold Qau.f
      rw[if_pos rfl,Option.bind_some]
     ·rw[if_neg (fun c=>hj c.2),if_pos c3,if_neg (show ¬(j:Int) > 0 from hj)]
      exact⟨i+1,r',p',by push_cast;rfl,rfl,h2.symm⟩
    ·rw[if_neg (fun c=>c3 c.1),if_neg c3]
     exact⟨i+1,r',p',by push_cast;rfl,rfl,h2.symm⟩
  ·rw[if_neg hi]
   rw[List.drop_of_length_le (by omega)]at hd
   rw[Qya (k+1) r p (by omega) hd.symm,Option.bind_some]
   dsimp only
   rw[if_neg (by decide)]
   exact⟨r,p,by decide,rfl⟩
theorem Qyd(bs:List Int)(hb:Bytes bs)(hbl:bs.length≤1000000000)(i k:Nat)(least most:Int)(r:ByteArray)(p:Int)(hl:0≤least∧least≤1000000000)(hm:0≤most∧most≤1000000000)(hd:bs.drop i=bytesOf r)(hk:100≤k) :
  match Qti bs least most (i:Int)with
  | .ok (xs,i1)=>∃(m:Nat) (r' t:ByteArray) (p':Int),i1=(m:Int)∧Qba.f k r p 0 least most=some (r',p',0,t)∧bs.drop m=bytesOf r'∧t=strOfNums xs
  | .error (er,_)=>∃(r':ByteArray) (p':Int) (e':Int),e'≠0∧Qba.f k r p 0 least most=some (r',p',e',(⟨#[]⟩:ByteArray)):=by
 obtain⟨k,rfl⟩:∃m,k=m+4:=⟨k-4,by omega⟩
 have hs:=Qyc bs hb 9 0 i (k+4) 0 r p rfl (Int.le_refl _) (by decide) hd (by omega)
 have hml:IntKind.u64.wrap (mx 0 least)=least:=by
  rw[show mx 0 least=least by unfold mx;split<;>omega,IntWalk.u64_in _ (by omega)]
 have hmm:IntKind.u64.wrap (mx 0 most)=most:=by
  rw[show mx 0 most=most by unfold mx;split<;>omega,IntWalk.u64_in _ (by omega)]
 unfold Qti Qba.f Qaz.f
 rw[show((0:Nat):Int)=0 from rfl,Int.pow_zero]at hs
 rw[hmm]
 cases hv:Qrp bs 10 0 (i:Int) 0 with
 | error q =>
  obtain⟨er,i1⟩:=q
  rw[hv]at hs
  obtain⟨r',p',he,h1⟩:=hs
  rw[h1,Option.bind_some]
  dsimp only
  rw[if_neg he]
  unfold Qba.j0
  dsimp only
  rw[if_neg (show ¬false=true by decide)]
  unfold Qba.j1
  dsimp only
  rw[if_neg he]
  unfold Qba.j2
  dsimp only
  rw[if_neg (show ¬false=true by decide),if_neg he]
  exact⟨_,_,er,he,rfl⟩
 | ok q =>
  obtain⟨n,i1⟩:=q
  obtain⟨m,rfl,hn0,hn1,hdd,hmm2⟩:=Qwt hb hv
  rw[hv]at hs
  obtain⟨m',r',p',hi1,h1,h2⟩:=hs
  obtain rfl:m=m':=by omega
  have hrl:=Qdf r'
  rw[← h2,List.length_drop]at hrl
  have hmle:m≤bs.length:=by
   have:=congrArg List.length hdd
   have hp:=Qww 9 n
   rw[List.length_drop,List.length_append]at this
   omega
  rw[h1,Option.bind_some]
  dsimp only
  rw[if_pos rfl]
  unfold Qba.j0
  dsimp only
  by_cases c1:most<n
  ·rw[if_pos c1,if_pos (show decide (n > most)=true by simpa using c1)]
   unfold Qau.f
   rw[if_pos rfl,Option.bind_some]
   dsimp only
   unfold Qba.j1
   dsimp only
   rw[if_neg (show ¬(3:Int)=0 by decide)]
   unfold Qba.j2
   dsimp only
   rw[if_neg (show ¬false=true by decide),if_neg (show ¬(3:Int)=0 by decide)]
   exact⟨_,_,3,by decide,rfl⟩
  ·rw [if_neg c1,if_neg (show ¬decide (n > most)=true by simpa using c1)]
   unfold Qba.j1
   dsimp only
   rw[if_pos rfl,hml]
   unfold Qba.j2
   dsimp only
   by_cases c2:n<least
   ·rw[if_pos c2,if_pos (show decide (n<least)=true by simpa using c2)]
    unfold Qau.f
    rw[if_pos rfl,Option.bind_some]
    dsimp only
    rw[if_neg (show ¬(4:Int)=0 by decide)]
    exact⟨_,_,4,by decide,rfl⟩
   ·obtain⟨N,rfl⟩:=Int.eq_ofNat_of_zero_le hn0
    rw[if_neg c2,if_neg (show ¬decide ((N:Int)<least)=true by simpa using c2),if_pos rfl,show wrap64 (N:Int)=(N:Int)by unfold wrap64;omega]
    by_cases c3:(m:Int)+(N:Int)≤(bs.length:Int)
    ·rw[if_pos c3]
     rcases Nat.eq_zero_or_pos N with hz|hz
     ·subst hz
      rw[show(((0:Nat):Int))=0 from rfl,Qxx,Option.bind_some]
      exact⟨m,r',_,p',by omega,rfl,h2,rfl⟩
     ·rw[Qxw _ r' p' N hz (by omega),Option.bind_some]
      refine⟨m+N,_,_,_,by push_cast;rfl,rfl,?_,?_⟩
      ·rw[Qnb,← h2,List.drop_drop]
      ·rw[Int.toNat_natCast,Int.toNat_natCast]
       apply Qns
       rw[bytesOf_nums ((hb.drop _).take _),Qmm,h2]
       simp
    ·rw[if_neg c3,Qxy _ r' p' (N:Int) (by omega) (by omega),Option.bind_some]
     exact⟨_,_,2,by decide,rfl⟩
theorem Qye(k:Nat)(r:ByteArray)(p er least most:Int)(he:er≠0)(hk:100≤k):Qba.f k r p er least most=some (r,p,er,(⟨#[]⟩:ByteArray)):=by
 obtain⟨k,rfl⟩:∃m,k=m+4:=⟨k-4,by omega⟩
 have hg:Qaz.f (k+4) r p er=some (r,p,er,0):=by
  unfold Qaz.f Qaz.l0
  rw[if_pos (show(0:Int)<10 by decide),Qyb (k+3) r p er (by omega) he,Option.bind_some]
  dsimp only
  rw[if_neg he]
 unfold Qba.f
 rw[hg,Option.bind_some]
 dsimp only
 rw[if_neg he]
 unfold Qba.j0
 dsimp only
 rw[if_neg (show ¬false=true by decide)]
 unfold Qba.j1
 dsimp only
 rw[if_neg he]
 unfold Qba.j2
 dsimp only
 rw[if_neg (show ¬false=true by decide),if_neg he]
theorem Qyf(r:ByteArray)(p er:Int)(he:er≠0):Qat.f r p er=some (r,p,er):=by
 unfold Qat.f Qau.f
 rw[if_neg he,Option.bind_some]
 split<;>rfl
theorem Qyg(r:ByteArray)(p:Int):∃er,Qat.f r p 0=some (r,p,er)∧(er=0↔bytesOf r=[]):=by
 unfold Qat.f Qau.f
 rw[if_pos rfl,Option.bind_some]
 have hl:=Qdf r
 by_cases h:r.size=0
 ·rw[if_pos ((size_nil_iff r).2 h)]
  exact⟨0,rfl,fun _=>List.eq_nil_of_length_eq_zero (by omega),fun _=>rfl⟩
 ·rw[if_neg (fun e=>h ((size_nil_iff r).1 e))]
  exact⟨3,rfl,fun e=>absurd e (by decide),fun e=>by rw[e]at hl;exact absurd hl.symm h⟩
theorem Qyh (s:ByteArray) (hs:s.size≤1000000000) (k:Nat) (hk:200≤k) :
  match recL (bytesOf s)with
  | .ok ((d,q,a,b),_)=>Qbl.f k s=some (d,q,a,b,0)
  | .error _=>∃e,e≠0∧Qbl.f k s=some (false,0,(⟨#[]⟩:ByteArray),(⟨#[]⟩:ByteArray),e):=by
 have hbb:=Qmj s
 have hl:=Qdf s
 have hbt:bt s 0=rd (bytesOf s) 0:=Qob s 0
 unfold recL Qbl.f
 by_cases h0:s.size=0
 ·rw[if_neg (by omega),if_pos h0]
  exact⟨2,by decide,rfl⟩
 ·rw [if_pos (by omega),if_neg h0,hbt]
  by_cases hkd:rd (bytesOf s) 0≠2∧rd (bytesOf s) 0≠3
  ·rw[if_pos hkd,if_pos hkd]
   exact⟨4,by decide,rfl⟩
  ·rw [if_neg hkd,if_neg hkd]
   have hd1:(bytesOf s).drop 1=bytesOf (s.extract 1 s.size):=(Qnb s 1).symm
   have hg:=Qyc (bytesOf s) hbb 9 0 1 k 0 _ 0 rfl (Int.le_refl _) (by decide) hd1 (by omega)
   rw[show((0:Nat):Int)=0 from rfl,Int.pow_zero,show((1:Nat):Int)=0+1 from rfl]at hg
   have e0:Qaz.f k (s.extract 1 s.size) 0 0=Qaz.l0 k 0 1 0 (s.extract 1 s.size) 0 0:=rfl
   rw[e0]
   cases hv:Qrp (bytesOf s) 10 0 (0+1) 0 with
   | error q =>
    rw[hv]at hg
    obtain⟨r',p',he,h1⟩:=hg
    rw[h1,Option.bind_some]
    dsimp only
    rw[Qye k r' p' q.1 1 4096 he (by omega),Option.bind_some]
    dsimp only
    rw[Qyf _ _ _ he,Qye k r' p' q.1 0 1048576 he (by omega),Option.bind_some,Option.bind_some]
    dsimp only
    rw[Qyf _ _ _ he,Option.bind_some]
    dsimp only
    rw[if_neg he]
    refine⟨q.1,he,?_⟩
    split<;>rfl
   | ok q =>
    obtain⟨q,i2⟩:=q
    rw[hv]at hg
    obtain⟨m2,r2,p2,hi2,h1,hd2⟩:=hg
    subst hi2
    rw[h1,Option.bind_some]
    dsimp only
    have ht:=Qyd (bytesOf s) hbb (by omega) m2 k 1 4096 r2 p2 (by decide) (by decide) hd2 (by omega)
    cases htv:Qti (bytesOf s) 1 4096 (m2:Int)with
    | error y =>
     rw[htv]at ht
     obtain⟨r',p',e',he,h2⟩:=ht
     rw[h2,Option.bind_some]
     dsimp only
     rw[Qyf _ _ _ he,Qye k r' p' e' 0 1048576 he (by omega),Option.bind_some,Option.bind_some]
     dsimp only
     rw[Qyf _ _ _ he,Option.bind_some]
     dsimp only
     rw[if_neg he]
     refine⟨e',he,?_⟩
     split<;>rfl
    | ok y =>
     obtain⟨xs,i3⟩:=y
     rw[htv]at ht
     obtain⟨m3,r3,t3,p3,hi3,h2,hd3,rfl⟩:=ht
     subst hi3
     rw[h2,Option.bind_some]
     dsimp only
     have hnil:∀ {m:Nat} {r:ByteArray},(bytesOf s).drop m=bytesOf r→((0:Int)<((bytesOf s).length:Int)-(m:Int)↔bytesOf r≠[]):=by
      intro m r h
      rw[← h,← List.length_pos_iff,List.length_drop]
      omega
     by_cases hk3:rd (bytesOf s) 0=3
     ·rw[if_pos hk3,if_pos hk3]
      obtain⟨er,h3,h4⟩:=Qyg r3 p3
      rw[h3,Option.bind_some]
      dsimp only
      by_cases hend:(0:Int)<((bytesOf s).length:Int)-(m3:Int)
      ·have hne:er≠0:=fun e=>(hnil hd3).1 hend (h4.1 e)
       rw[if_pos hend,if_neg hne]
       exact⟨er,hne,rfl⟩
      ·have hz:er=0:=h4.2 (Classical.byContradiction fun c=>hend ((hnil hd3).2 c))
       rw[if_neg hend,if_pos hz]
     ·rw[if_neg hk3,if_neg hk3]
      have hu:=Qyd (bytesOf s) hbb (by omega) m3 k 0 1048576 r3 p3 (by decide) (by decide) hd3 (by omega)
      cases huv:Qti (bytesOf s) 0 1048576 (m3:Int)with
      | error y =>
       rw[huv]at hu
       obtain⟨r',p',e',he,h5⟩:=hu
       rw[h5,Option.bind_some]
       dsimp only
       rw[Qyf _ _ _ he,Option.bind_some]
       dsimp only
       rw[if_neg he]
       exact⟨e',he,rfl⟩
      | ok y =>
       obtain⟨ys,i4⟩:=y
       rw[huv]at hu
       obtain⟨m4,r4,t4,p4,hi4,h5,hd4,rfl⟩:=hu
       subst hi4
       rw[h5,Option.bind_some]
       dsimp only
       obtain⟨er,h3,h4⟩:=Qyg r4 p4
       rw[h3,Option.bind_some]
       dsimp only
       by_cases hend:(0:Int)<((bytesOf s).length:Int)-(m4:Int)
       ·have hne:er≠0:=fun e=>(hnil hd4).1 hend (h4.1 e)
        rw[if_pos hend,if_neg hne]
        exact⟨er,hne,rfl⟩
       ·have hz:er=0:=h4.2 (Classical.byContradiction fun c=>hend ((hnil hd4).2 c))
        rw[if_neg hend,if_pos hz]
theorem Qyi(s:ByteArray)(hs:s.size≤1000000000)(hf:Free (bytesOf s))(k:Nat)(hk:4*s.size+300≤k) :
  ∃r1 r2 r3 r4 r5,Qbo.f k s=some (r1,r2,r3,r4,r5)∧(r5=0→okR (⟨r1,r2,r3,r4⟩:Rec)∧bytesOf s++[0]=Qvm (⟨r1,r2,r3,r4⟩:Rec))∧(∀r',okR r'→bytesOf s++[0]=Qvm r'→r5=0∧(⟨r1,r2,r3,r4⟩:Rec)=r'):=by
 obtain⟨o,e,h1,h2,hos⟩:=Qxu s hs hf k (by omega)
 obtain⟨r1,r2,r3,r4,r5,h3,h4,h5⟩:=Qxn (Qmj s) hf (by rw[Qdf];exact hs) k (by rw[Qdf];omega)
 have hrs:=Qyh o (by omega) k (by omega)
 have hol:=Qdf o
 unfold Qcg.f at h3
 unfold Qbo.f
 rw[h2,Option.bind_some]at h3
 rw[h1,Option.bind_some]
 dsimp only at h3 ⊢
 by_cases he:e=0
 ·rw[if_pos he]at h3 ⊢
  unfold Qcl.f at h3
  rw[if_pos ⟨Qmj o,by omega⟩]at h3
  cases hr:recL (bytesOf o)with
  | ok p =>
   obtain⟨⟨d,q,a,b⟩,i⟩:=p
   rw[hr]at h3 hrs
   dsimp only at h3 hrs
   cases h3
   rw[hrs,Option.bind_some]
   exact⟨_,_,_,_,_,rfl,h4,h5⟩
  | error p =>
   obtain⟨er,i⟩:=p
   rw[hr]at h3 hrs
   dsimp only at h3 hrs
   cases h3
   obtain⟨e',he',h6⟩:=hrs
   rw[h6,Option.bind_some]
   refine⟨_,_,_,_,_,rfl,fun h=>absurd h he',fun r' hr' hfr=>?_⟩
   exact absurd (h5 r' hr' hfr).1 (Qtw hr)
 ·rw[if_neg he]at h3 ⊢
  cases h3
  exact⟨_,_,_,_,_,rfl,h4,h5⟩
theorem Qyj:∀(n:Nat) (b:List Int),b.length≤n→(Qkw b).length≤b.length+1+(b.length-1)/254
 | n,b,hn=>by
  rcases Int.lt_or_le (ixOf (b.take 254) 0) 0 with h0|h0
  ·by_cases hl:254<b.length
   ·rw[Qla h0 hl]
    match n,hn with
    | 0,hn=>omega
    | n+1,hn =>
     have ih:=Qyj n (b.drop 254) qq_19
     rw[List.length_drop]at ih
     rw[List.length_cons,List.length_append,List.length_take]
     omega
   ·rw[Qlb h0 hl,List.length_cons]
    omega
  ·obtain⟨p,hp⟩:=Int.eq_ofNat_of_zero_le h0
   have h1:=(Qku (b.take 254) 0).2
   rw[List.length_take,hp]at h1
   rw[Qkz hp]
   match n,hn with
   | 0,hn=>omega
   | n+1,hn =>
    have ih:=Qyj n (b.drop (p+1)) qq_19
    rw[List.length_drop]at ih
    rw[List.length_cons,List.length_append,List.length_take]
    omega
theorem Qyk(b:List Int):(Qnk b).length≤b.length+8+1+(b.length+8-1)/254+1:=by
 have h:=Qyj _ (b++leb (Qma 0 b) 8) (Nat.le_refl _)
 rw[List.length_append,Qjl]at h
 unfold Qnk
 rw[List.length_append]
 simp
 omega
theorem Qyl(l:List Ent):(Qoz l).length=(l.length+15)/16:=by simp[Qoz,chN]
theorem Qym(u:Int)(l:List Ent):((Qqe u l).length:Int)≤Qvc (l.length:Int):=by
 have h:=Qyk ([4]++leb l.length 4++leb u 4++l.flatMap ent++(Qoz l).flatMap (fun x=>leb x 8))
 have h2:=Qqg (l.length:Int) u l
 rw[List.nil_append]at h2
 rw[h2,Qyl]at h
 unfold Qqe Qvc
 obtain⟨c,hc⟩:∃c,c=(l.length+15)/16:=⟨_,rfl⟩
 have hcI:((l.length:Int)+15)/16=(c:Int):=by omega
 rw[hcI]
 rw[← hc]at h
 clear hc hcI h2
 obtain⟨g,hg⟩:∃g,g=(9+12*l.length+8*c+8-1)/254:=⟨_,rfl⟩
 have hgI:(9+12*(l.length:Int)+8*(c:Int)+8-1)/254=(g:Int):=by omega
 rw[hgI]
 rw[← hg]at h
 clear hg hgI
 omega
theorem Qyn(x y z:Ent)(h1:(!(ltOf cfE) y x)=true)(h2:(!(ltOf cfE) z y)=true):(!(ltOf cfE) z x)=true:=by
 rw[Qpl]at *
 simp at *
 omega
theorem Qyo(x y:Ent):((!(ltOf cfE) y x) ||(!(ltOf cfE) x y))=true:=by
 rw[Qpl,Qpl]
 simp
 omega
theorem Qyp(l:List Ent):(Qpj l).Pairwise (fun x y=>(!(ltOf cfE) y x)=true):=List.pairwise_mergeSort Qyn Qyo l
theorem Qyq:∀(l:List Ent),l.Pairwise (fun x y=>(!(ltOf cfE) y x)=true)→l.Nodup→Qpw l=true
 | [],_,_=>rfl
 | [_],_,_=>rfl
 | a :: b :: t,hp,hn=>by
  have hp2:=List.pairwise_cons.1 hp
  have hn2:=List.pairwise_cons.1 hn
  have ih:=Qyq (b :: t) hp2.2 hn2.2
  have h1:=hp2.1 b (by simp)
  have h2:=hn2.1 b (by simp)
  have h3:ltOf cfE a b=true:=by
   cases h:ltOf cfE a b with
   | true=>rfl
   | false=>exact absurd (totE a b h (by simpa using h1)) h2
  unfold Qpw ltE
  rw[ih]
  simpa [ltOf]using h3
theorem Qyr{l:List Ent}(h:l.Nodup):Qpw (Qpj l)=true:=Qyq _ (Qyp l) ((Qpt l).nodup_iff.2 h)
def okB(e s n:Int)(i:Nat)(B:Bd):Prop :=
 B.1=(e,s,n,(B.2.1.length:Int),(B.2.2.length:Int))∧B.2.2.length≤i∧(∀x∈B.2.2,wfE x∧x.f1<(B.2.1.length:Int))∧B.2.2.Pairwise (fun x y=>x.f1<y.f1)∧(B.2.1.length:Int)≤16777216
def putB(e s n:Int)(B:Bd)(r:Rec):Bd :=
 ((e,s,n,((B.2.1++Qvm r).length:Int),((B.2.2.length+1:Nat):Int)),B.2.1++Qvm r,B.2.2++[⟨Qma 0 (bytesOf r.f2),(B.2.1.length:Int)%4294967296⟩])
def freshB(e s n:Int):Bd:=((e,s,n,Quz e s n,0),Qno e s n,[])
theorem Qys(e s n:Int)(i:Nat):okB e s n i (freshB e s n):=by
 have:=Qvb e s n
 refine⟨by simp[freshB,Quz],by simp[freshB],by simp[freshB],by simp[freshB],?_⟩
 unfold Quz at this
 simp only[freshB]
 omega
theorem Qyt(u:Int){l:List Ent}(h:∀x∈l,x.f1<u):(Qpj l).any (fun x=>decide (u≤x.f1))=false:=by
 rw[List.any_eq_false]
 intro x hx
 have:=h x ((Qpt l).mem_iff.1 hx)
 simp
 omega
theorem Qyu{l:List Ent}(h:l.Pairwise (fun x y=>x.f1<y.f1)):l.Nodup:=h.imp (fun {a b} hab he=>by subst he;omega)
end Go.Proofs.YtnnofopfbeklbaaGreat.CodecP
end
