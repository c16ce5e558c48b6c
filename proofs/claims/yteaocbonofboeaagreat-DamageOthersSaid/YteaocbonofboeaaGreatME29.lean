/- Merged texts. -/
import Derived.Test.YteaocbonofboeaaGreatME28
import Derived.Test.YteaocbonofboeaaGreatME27
import Derived.Test.YteaocbonofboeaaGreatME25
import Derived.Test.YteaocbonofboeaaGreatME02
import Derived.Test.YteaocbonofboeaaGreatME11
import Derived.Test.YteaocbonofboeaaGreatME23
import Derived.Test.YteaocbonofboeaaGreatME21
import Derived.Test.YteaocbonofboeaaGreatME12
import Derived.Test.YteaocbonofboeaaGreatME10
import Derived.Test.YteaocbonofboeaaGreatME06
set_option linter.unusedVariables false
set_option linter.unusedSimpArgs false
set_option maxHeartbeats 8000000
set_option maxRecDepth 100000
section
namespace Go.Proofs.YteaocbonofboeaaGreat.CodecP
open Go.RowKit Go.Proofs.YteaocbonofboeaaGreat.C Go.Proofs.YteaocbonofboeaaGreatW.PrintWords Go.Proofs.YteaocbonofboeaaGreatW.PrintLast Go.Proofs.YteaocbonofboeaaGreatW.PrintMore
theorem Qxt:Bytes []:=fun x hx=>nomatch hx
def unsF:Nat→List Int→Option (List Int)
 | _,[]=>some []
 | 0,_ :: _=>none
 | k+1,c :: t=>if t.length+1<c.toNat then none else(unsF k (t.drop (c.toNat-1))).map (fun d=>t.take (c.toNat-1)++(if c<255∧t.drop (c.toNat-1)≠[]then 0 :: d else d))
theorem Qxu(k:Nat):unsF k []=some []:=by cases k<;>rfl
theorem Qxv:∀(n:Nat) (b:List Int) (k:Nat),b.length≤n→Bytes b→(Qks b).length≤k→unsF k (Qks b)=some b
 | n,b,k,hn,hb,hk=>by
  rcases Qwl hb with⟨a,r,rfl,hf,hl,e⟩ |⟨a,r,rfl,hf,hl,hr,e⟩ |⟨hf,hl,e⟩
  ·rw[List.length_append,List.length_cons]at hn;rw[e,List.length_cons,List.length_append]at hk
   match n,k,hn,hk with
   | n+1,k+1,hn,hk =>
    have ih:=Qxv n r k (by omega) hb.right.tail (by omega);have hs:=Qwm _ r (Nat.le_refl _) hb.right.tail;have hc:((a.length:Int)+1).toNat-1=a.length:=by omega
    rw[e,unsF,hc,List.take_left' rfl,List.drop_left' rfl,if_neg (by rw[List.length_append];omega),ih,Option.map_some,if_pos ⟨by omega,hs.2.2⟩]
  ·rw[List.length_append]at hn;rw[e,List.length_cons,List.length_append]at hk
   match n,k,hn,hk with
   | 0,k,hn,hk=>omega
   | n+1,k+1,hn,hk =>
    have ih:=Qxv n r k (by omega) hb.right (by omega);have hc:(255:Int).toNat-1=a.length:=by omega
    rw[e,unsF,hc,List.take_left' rfl,List.drop_left' rfl,if_neg (by rw[List.length_append];omega),ih,Option.map_some,if_neg (fun h=>by omega)]
  ·rw[e,List.length_cons]at hk;obtain⟨k,rfl⟩:∃m,k=m+1:=⟨k-1,by omega⟩;have hc:((b.length:Int)+1).toNat-1=b.length:=by omega
   rw[e,unsF,hc,List.take_of_length_le (Nat.le_refl _),List.drop_of_length_le (Nat.le_refl _),if_neg (by omega),Qxu,Option.map_some,if_neg (fun h=>h.2 rfl),List.append_nil]
def unsR(acc rest c:List Int)(j:Nat):List Int × Int:=match unsF j rest with
 | none=>([],2)
 | some d=>if Qks (acc++d)=c then(acc++d,0)else([],4)
theorem Qxw(c:List Int)(hc:Bytes c)(hcl:c.length≤1000000000):∀(j k:Nat) (acc rest:List Int),rest.length≤j→Bytes rest→Free rest→Bytes acc→acc.length+rest.length≤c.length→j+2≤k→Qan.l0 k c acc rest=some (unsR acc rest c j)
 | j,k+1,acc,[],hj,hb,hf,ha,hl,hk=>by
  have hs:=Qwm _ acc (Nat.le_refl _) ha;unfold Qan.l0 unsR;rw[Qxu];dsimp only;rw[if_neg (by simp),List.append_nil];unfold Qam.f;rw[if_pos (by simp at hl;omega),Option.bind_some];unfold Qae.f;rw[Option.bind_some]
  by_cases he:Qks acc=c
  ·rw[if_pos he,if_pos (by rw[he];exact beq_self_eq_true _)]
  ·rw[if_neg he,if_neg (by
    intro h;exact he ((Qxs hs.2.1 hc).1 (beq_iff_eq.1 h)))]
 | j + 1,k+1,acc,x :: t,hj,hb,hf,ha,hl,hk=>by
  have hx:=hb x (List.mem_cons_self ..);have b:=hf x (List.mem_cons_self ..);have hw:wrap64 x=x:=by unfold wrap64;omega
  have hrd:rd (x :: t) 0=x:=rfl;obtain⟨m,hm⟩:∃m:Nat,x=(m:Int)+1:=⟨x.toNat-1,by omega⟩;have hxt:x.toNat=m+1:=by omega
  unfold Qan.l0;rw[hrd,hw,if_pos (by simp only[List.length_cons];omega),if_pos (by simp only[List.length_cons];omega)]
  by_cases hsh:t.length<m
  ·rw[if_pos (by simp only[List.length_cons];omega)];unfold unsR;rw[unsF,hxt,if_pos (by omega)]
  ·have e1:((x :: t).take (m+1)).drop 1=t.take m:=by simp
   have e2:(x :: t).drop (m+1)=t.drop m:=by simp
   have hlt:(t.take m).length=m:=by rw[List.length_take];omega
   simp only[List.length_cons]at hj hl;have hba:Bytes (acc++t.take m):=ha.app (hb.tail.take m);have hbt:Bytes (t.drop m):=hb.tail.drop m;have hft:Free (t.drop m):=fun y hy=>hf y (List.mem_cons_of_mem _ (List.mem_of_mem_drop hy))
   have hdl:(t.drop m).length=t.length-m:=List.length_drop;rw[if_neg (by simp only[List.length_cons];omega),if_pos (by omega),if_pos (by simp only[List.length_cons];omega),hxt,e1,e2,Option.bind_some,hlt,if_pos (by omega),Option.bind_some,if_pos (by omega),Option.bind_some];have hu:∀(z:List Int) (hz:z=if x<255∧t.drop m≠[]then [0]else []),unsR acc (x :: t) c (j+1)=unsR (acc++t.take m++z) (t.drop m) c j:=by
    intro z hz;unfold unsR;rw[unsF,hxt,if_neg (by omega),Nat.add_sub_cancel]
    cases unsF j (t.drop m)with
    | none=>rfl
    | some d =>
     simp only[Option.map_some];have:acc++(t.take m++(if x<255∧t.drop m≠[]then 0 :: d else d))=acc++t.take m++z++d:=by
      rw[hz]
      by_cases h:x<255∧t.drop m≠[]
      ·rw[if_pos h,if_pos h];simp
      ·rw[if_neg h,if_neg h];simp
     rw[this]
   by_cases a:x≤254
   ·rw[if_pos a]
    by_cases hne:t.drop m=[]
    ·rw[if_neg (by rw[hne];simp),Qxw c hc hcl j k _ _ (by omega) hbt hft hba (by rw[List.length_append,hlt,hdl];omega) (by omega),hu [] (by rw[if_neg (fun h=>h.2 hne)]),List.append_nil]
    ·have hpos:0<(t.drop m).length:=List.length_pos_iff.2 hne;rw[if_pos (by omega),if_pos (by rw[List.length_append,hlt];omega),Qxw c hc hcl j k _ _ (by omega) hbt hft (hba.app (fun y hy=>by rw[List.mem_singleton.1 hy];omega)) (by rw[List.length_append,List.length_append,hlt,hdl,List.length_singleton];omega) (by omega),hu [0] (by rw[if_pos ⟨by omega,hne⟩])]
   ·rw[if_neg a,Qxw c hc hcl j k _ _ (by omega) hbt hft hba (by rw[List.length_append,hlt,hdl];omega) (by omega),hu [] (by rw[if_neg (fun h=>by omega)]),List.append_nil]
theorem Qxx{c:List Int}(hc:Bytes c)(hf:Free c)(hcl:c.length≤1000000000)(k:Nat)(hk:c.length+5≤k):Qan.f k c=some (if c=[]then([],2)else unsR [] c c c.length):=by
 unfold Qan.f Qaf.f;rw[Option.bind_some,Qtt hc hf,if_neg (by decide)]
 by_cases h:c=[]
 ·rw[if_pos h,if_pos (by rw[h];rfl)]
 ·rw[if_neg h,if_neg (fun e=>h (List.length_eq_zero_iff.1 (by omega)))];exact Qxw c hc hcl c.length k [] c (Nat.le_refl _) hc hf (fun x hx=>by cases hx) (by simp) (by omega)
theorem Qxy{c:List Int}{out:List Int}{e:Int}(h:unsR [] c c c.length=(out,e)):e=0→Qks out=c:=by
 intro he;unfold unsR at h
 cases hu:unsF c.length c with
 | none=>rw[hu]at h;cases h;cases he
 | some d =>
  rw[hu]at h;dsimp only at h
  by_cases hs:Qks ([]++d)=c
  ·rw[if_pos hs]at h
   cases h
   exact hs
  ·rw[if_neg hs]at h
   cases h
   cases he
theorem Qxz:∀(j:Nat) (rest d:List Int),Bytes rest→unsF j rest=some d→Bytes d∧d.length≤rest.length
 | j,[],d,hb,h=>by rw[Qxu]at h;cases h;exact⟨Qxt,Nat.le_refl _⟩
 | 0,_ :: _,d,hb,h=>by cases h
 | j+1,x :: t,d,hb,h=>by
  rw[unsF]at h;split at h
  ·cases h
  ·obtain⟨d2,h2,rfl⟩:=Option.map_eq_some_iff.1 h;obtain⟨h3,h4⟩:=Qxz j _ d2 (hb.tail.drop _) h2;rw[List.length_drop]at h4;rename_i hle;have hx:=hb x (List.mem_cons_self ..);split
   ·refine⟨(hb.tail.take _).app (h3.cons ⟨by decide,by decide⟩),?_⟩;rename_i hc;have:0<(t.drop (x.toNat-1)).length:=List.length_pos_iff.2 hc.2;rw[List.length_drop]at this;rw[List.length_append,List.length_take,List.length_cons,List.length_cons];omega
   ·refine⟨(hb.tail.take _).app h3,?_⟩;rw[List.length_append,List.length_take,List.length_cons];omega
theorem Qya{c:List Int}(hc:Bytes c){out:List Int}{e:Int}(h:unsR [] c c c.length=(out,e)):Bytes out∧out.length≤c.length:=by
 unfold unsR at h
 cases hu:unsF c.length c with
 | none=>rw[hu]at h;cases h;exact⟨Qxt,Nat.zero_le _⟩
 | some d =>
  rw[hu]at h;dsimp only at h;split at h
  ·cases h;exact Qxz _ _ _ hc hu
  ·cases h;exact⟨Qxt,Nat.zero_le _⟩
theorem Qyb{b:List Int}(hb:Bytes b):unsR [] (Qks b) (Qks b) (Qks b).length=(b,0):=by
 unfold unsR;rw[Qxv _ b _ (Nat.le_refl _) hb (Nat.le_refl _)];dsimp only;rw[List.nil_append,if_pos rfl]
theorem Qyc:∀(l:List Int),Bytes l→leb (leI l) l.length=l
 | [],_=>rfl
 | b :: l,h=>by
  have hb:=h b (List.mem_cons_self ..);have hr:=(Qqs h.tail).1;simp only[List.length_cons,leb,leI];rw[show(b+256*leI l)%256=b by omega,show(b+256*leI l)/256=leI l by omega,Qyc l h.tail]
theorem Qyd:∀(n:Nat) (x:Int),0≤x→x<256^n→leI (leb x n)=x
 | 0,x,h0,h1=>by simp at h1;simp[leb,leI];omega
 | n+1,x,h0,h1=>by
  rw[Int.pow_succ]at h1;simp only[leb,leI];rw[Qyd n (x/256) (by omega) (by omega)];omega
theorem hashP_r(b:List Int):R64 (Qmf 0 b):=by
 unfold Qmf sumP;split<;>(unfold finP;exact Qrf _ _ _)
theorem Qye{c:List Int}(hc:Bytes c)(hf:Free c)(hcl:c.length≤1000000000)(k:Nat)(hk:c.length+5≤k) :
  ∃out e,Qbs.f k c=some (out,e)∧(e=0→Bytes out∧out.length≤c.length∧c++[0]=Qml out)∧(∀b,Bytes b→c++[0]=Qml b→e=0∧out=b):=by
 have hsb:∀b,Bytes b→c++[0]=Qml b→c=Qks (b++leb (Qmf 0 b) 8):=fun b hb h=>by
  unfold Qml at h;exact List.append_cancel_right h
 have hbl:∀b,Bytes b→Bytes (b++leb (Qmf 0 b) 8):=fun b hb=>hb.app (Qws 8 _)
 unfold Qbs.f;rw[Qxx hc hf hcl k hk,Option.bind_some]
 by_cases h0:c=[]
 ·rw[if_pos h0,if_neg (by decide)];refine⟨[],2,rfl,fun h=>absurd h (by decide),fun b hb h=>?_⟩;have h1:=hsb b hb h;rw[h0]at h1;exact absurd h1.symm (Qwm _ _ (Nat.le_refl _) (hbl b hb)).2.2
 ·rw [if_neg h0];obtain⟨o,e0,ho⟩:∃o e0,unsR [] c c c.length=(o,e0):=⟨_,_,rfl⟩;rw[ho];obtain⟨hbo,hlo⟩:=Qya hc ho;have hun:∀b,Bytes b→c++[0]=Qml b→e0=0∧o=b++leb (Qmf 0 b) 8:=fun b hb h=>by
   have h1:=hsb b hb h;have h2:=Qyb (hbl b hb);rw[← h1,ho]at h2
   cases h2
   exact⟨rfl,rfl⟩
  dsimp only
  by_cases he:e0=0
  ·rw [if_pos he,if_pos ⟨hbo,by omega⟩];have hst:=Qxy ho he;unfold openS
   by_cases h8:o.length<8
   ·rw[if_pos h8];refine⟨[],2,rfl,fun h=>absurd h (by decide),fun b hb h=>?_⟩;have h2:=(hun b hb h).2;rw[h2,List.length_append,Qjs]at h8;omega
   ·rw[if_neg h8];have hdl:(o.drop (o.length-8)).length=8:=by rw[List.length_drop];omega
    by_cases hh:leI (o.drop (o.length-8))=Qmf 0 (o.take (o.length-8))
    ·rw[if_pos hh];refine⟨_,0,rfl,fun _=>⟨hbo.take _,by rw[List.length_take];omega,?_⟩,fun b hb h=>⟨rfl,?_⟩⟩
     ·unfold Qml;rw[← hh];have h3:=Qyc (o.drop (o.length-8)) (hbo.drop _);rw[hdl]at h3;rw[h3,List.take_append_drop,hst]
     ·have h2:=(hun b hb h).2;rw[h2,List.length_append,Qjs,Nat.add_sub_cancel,List.take_left' rfl]
    ·rw[if_neg hh];refine⟨[],5,rfl,fun h=>absurd h (by decide),fun b hb h=>?_⟩;have h2:=(hun b hb h).2
     exfalso
     apply hh;have hr:=hashP_r b;rw[h2,List.length_append,Qjs,Nat.add_sub_cancel,List.take_left' rfl,List.drop_left' rfl,Qyd 8 _ hr.1 (by have:=hr.2;simpa using this)]
  ·rw[if_neg he];exact⟨[],e0,rfl,fun h=>absurd h he,fun b hb h=>absurd (hun b hb h).1 he⟩
theorem Qyf{c:List Int}(hc:Bytes c)(hf:Free c)(hcl:c.length≤1000000000)(k:Nat)(hk:c.length+5≤k) :
  ∃r1 r2 r3 r4 r5,Qbr.f k c=some (r1,r2,r3,r4,r5)∧(r5=0→okR (⟨r1,r2,r3,r4⟩:Rec)∧c++[0]=Qvs (⟨r1,r2,r3,r4⟩:Rec))∧(∀r',okR r'→c++[0]=Qvs r'→r5=0∧(⟨r1,r2,r3,r4⟩:Rec)=r'):=by
 obtain⟨out,e,ho,h1,h2⟩:=Qye hc hf hcl k hk;unfold Qbr.f;rw[ho,Option.bind_some];dsimp only
 by_cases he:e=0
 ·obtain⟨hbo,hlo,hso⟩:=h1 he;rw[if_pos he];unfold Qcj.f;rw[if_pos ⟨hbo,by omega⟩]
  cases hr:recL out with
  | ok p =>
   obtain⟨⟨d,q,a,b⟩,i⟩:=p;obtain⟨e1,e2,e3,e4⟩:=Qxq hbo hr;refine⟨d,q,a,b,0,rfl,fun _=>⟨⟨e2,e3,e4⟩,?_⟩,fun r' hr' hfr=>⟨rfl,?_⟩⟩
   ·rw[hso,e1];rfl
   ·have h3:=(h2 _ (Qxa hr') hfr).2;obtain⟨i2,h4⟩:=Qxr hr'.2.1 hr'.2.2 hr'.1;rw[← h3,hr]at h4
    cases h4
    rfl
  | error p =>
   obtain⟨er,i⟩:=p;refine⟨_,_,_,_,er,rfl,fun h=>absurd h (Qtc hr),fun r' hr' hfr=>?_⟩;have h3:=(h2 _ (Qxa hr') hfr).2;obtain⟨i2,h4⟩:=Qxr hr'.2.1 hr'.2.2 hr'.1;rw[← h3,hr]at h4
   cases h4
 ·rw[if_neg he];exact⟨_,_,_,_,e,rfl,fun h=>absurd h he,fun r' hr' hfr=>absurd (h2 _ (Qxa hr') hfr).1 he⟩
noncomputable def recO(c:List Int):Option Rec:=@dite _ (∃r,okR r∧c++[0]=Qvs r) (Classical.propDecidable _) (fun h=>some h.choose) (fun _=>none)
theorem Qyg{c:List Int}{r1:Bool}{r2:Int}{r3 r4:ByteArray}{r5:Int}(h1:r5=0→okR (⟨r1,r2,r3,r4⟩:Rec)∧c++[0]=Qvs (⟨r1,r2,r3,r4⟩:Rec))(h2:∀r',okR r'→c++[0]=Qvs r'→r5=0∧(⟨r1,r2,r3,r4⟩:Rec)=r') :
  (recO c=some (⟨r1,r2,r3,r4⟩:Rec)∧r5=0)∨(recO c=none∧r5≠0):=by
 unfold recO
 by_cases h:∃r,okR r∧c++[0]=Qvs r
 ·rw[dif_pos h];obtain⟨e1,e2⟩:=h2 _ h.choose_spec.1 h.choose_spec.2;exact .inl ⟨by rw[e2],e1⟩
 ·rw[dif_neg h];exact .inr ⟨rfl,fun h0=>h ⟨_,h1 h0⟩⟩
def fndO(o:Option Rec)(sg fr tt:Int):List C.Fd:=match o with
 | some r=>[(⟨r,sg,fr,tt-fr+1⟩:C.Fd)]
 | none=>[]
noncomputable def fnd:KS→List Int→List Int→List C.Fd
 | _,_,[]=>[]
 | K,held,x :: l=>if x=0 then fndO (recO held) K.2.1 K.2.2.2 K.2.2.1++fnd (cutN K x) [] l
   else fnd (cutN K x) (if(cutN K x).2.2.1-(cutN K x).2.2.2=0 then []else held++[x]) l
theorem Qyh(k:Nat):∀(l:List Int) (K:KS) (held:List Int) (ch fo em:Int) (out:List C.Fd),Bytes l→Bytes held→Free held→held.length+l.length≤1000000→2000000≤k →
  ∃K' held' ch' fo' em',Qtk k (K,held,ch,fo,em,out) l=some (K',held',ch',fo',em',out++fnd K held l)
 | [],K,held,ch,fo,em,out,_,_,_,_,_=>⟨K,held,ch,fo,em,by simp[Qtk,fnd]⟩
 | x :: l,K,held,ch,fo,em,out,hb,hh,hf,hl,hk=>by
  have hbl:Bytes l:=fun y hy=>hb y (List.mem_cons_of_mem _ hy)
  have hbx:=hb x (List.mem_cons_self ..);simp only[List.length_cons]at hl
  by_cases hx:x=0
  ·subst hx;obtain⟨r1,r2,r3,r4,r5,g1,g2,g3⟩:=Qyf hh hf (by omega) k (by omega);have h1:Qtj k (K,held,ch,fo,em,out) 0=some (cutN K 0,[],ch+1,(if r5=0 then fo+1 else fo),(if K.2.2.2=K.2.2.1 then em+1 else em),endO out r5 r1 r2 r3 r4 K.2.1 K.2.2.2 K.2.2.1):=by
    unfold Qtj;rw[if_pos rfl];dsimp only;rw[g1];rfl
   have h2:endO out r5 r1 r2 r3 r4 K.2.1 K.2.2.2 K.2.2.1=out++fndO (recO held) K.2.1 K.2.2.2 K.2.2.1:=by
    unfold endO fndO
    rcases Qyg g2 g3 with⟨e1,e2⟩ |⟨e1,e2⟩
    ·rw[if_pos e2,e1]
    ·rw[if_neg e2,e1,List.append_nil]
   obtain⟨K',held',ch',fo',em',h3⟩:=Qyh k l (cutN K 0) [] (ch+1) (if r5=0 then fo+1 else fo) (if K.2.2.2=K.2.2.1 then em+1 else em) (out++fndO (recO held) K.2.1 K.2.2.2 K.2.2.1) hbl (by simp[Bytes]) (by simp[Free]) qq_30 hk;refine⟨K',held',ch',fo',em',?_⟩;unfold Qtk fnd;rw[h1,Option.bind_some,h2,h3,if_pos rfl,List.append_assoc]
  ·have h1:Qtj k (K,held,ch,fo,em,out) x=some (cutN K x,(if(cutN K x).2.2.1-(cutN K x).2.2.2=0 then []else held++[x]),ch,fo,em,out):=by
    unfold Qtj;rw[if_neg hx]
   obtain⟨K',held',ch',fo',em',h3⟩:=Qyh k l (cutN K x) (if(cutN K x).2.2.1-(cutN K x).2.2.2=0 then []else held++[x]) ch fo em out hbl (by split;simp[Bytes];exact hh.app (fun y hy=>by rw[List.mem_singleton.1 hy];exact hbx)) (by split;simp[Free];intro y hy;rcases List.mem_append.1 hy with h|h;exact hf y h;rw[List.mem_singleton.1 h];exact hx) (by split;simp;omega;rw[List.length_append];simp only[List.length_singleton];omega) hk;refine⟨K',held',ch',fo',em',?_⟩;unfold Qtk fnd;rw[h1,Option.bind_some,h3,if_neg hx]
structure Inv (n:Nat) (pre:List Int) (sg at_ fr:Nat) (held:List Int):Prop where
  pos:fr≤at_∧at_<n
  len:pre.length=sg*n+at_
  held:held=pre.drop (sg*n+fr)
def ksOf(n sg at_ fr:Nat):KS:=((n:Int),(sg:Int),(at_:Int),(fr:Int))
theorem Qyi(n sg at_ fr:Nat)(x:Int)(hs:sg<1000000000000):cutN (ksOf n sg at_ fr) x=if at_+1=n then ksOf n (sg+1) 0 0 else ksOf n sg (at_+1) (if x=0 then at_+1 else fr):=by
 unfold cutN cutF ksOf;dsimp only
 by_cases h:at_+1=n
 ·rw[if_pos (by omega),if_pos h,show((sg:Int)+1)%18446744073709551616=((sg+1:Nat):Int)by omega];rfl
 ·rw[if_neg (by omega),if_neg h];split<;>rfl
def Qyj(L:List Int)(n:Nat)(c:Ck):List Int:=(L.drop (c.1.toNat*n+c.2.1.toNat)).take (c.2.2-c.2.1).toNat
noncomputable def fndC(L:List Int)(n:Nat)(c:Ck):List C.Fd:=fndO (recO (Qyj L n c)) c.1 c.2.1 c.2.2
theorem Qyk(L:List Int)(n:Nat):∀(l pre held:List Int) (sg at_ fr:Nat),L=pre++l→L.length≤1000000→Inv n pre sg at_ fr held→fnd (ksOf n sg at_ fr) held l=(cutA (ksOf n sg at_ fr) l).1.flatMap (fndC L n)
 | [],pre,held,sg,at_,fr,_,_,_=>by simp[fnd,cutA]
 | x :: l,pre,held,sg,at_,fr,hL,hLl,hI=>by
  obtain⟨hp,hlen,hheld⟩:=hI;have hLlen:L.length=pre.length+(l.length+1):=by rw[hL,List.length_append,List.length_cons]
  have hsgn:sg≤sg*n:=Nat.le_mul_of_pos_right _ (by omega);have hnext:L=(pre++[x])++l:=by rw[hL];simp
  have hpl:(pre++[x]).length=sg*n+at_+1:=by rw[List.length_append];simp only[List.length_singleton];omega
  have hmul:(sg+1)*n=sg*n+n:=Nat.succ_mul _ _;unfold fnd cutA;rw[List.flatMap_append]
  by_cases hx:x=0
  ·subst hx;rw[if_pos rfl];have hO:cutO (ksOf n sg at_ fr) 0=[((sg:Int),(fr:Int),(at_:Int))]:=rfl;have hc:fndC L n ((sg:Int),(fr:Int),(at_:Int))=fndO (recO held) (sg:Int) (fr:Int) (at_:Int):=by
    unfold fndC Qyj;dsimp only;rw[Int.toNat_natCast,Int.toNat_natCast,show((at_:Int)-(fr:Int)).toNat=at_-fr by omega,hL,List.drop_append_of_le_length (by omega),List.take_append_of_le_length qq_24,List.take_of_length_le qq_24,← hheld]
   rw[hO];simp only[List.flatMap_cons,List.flatMap_nil,List.append_nil];rw[hc]
   congr 1
   rw[Qyi n sg at_ fr 0 (by omega)]
   by_cases hw:at_+1=n
   ·rw[if_pos hw];exact Qyk L n l (pre++[0]) [] (sg+1) 0 0 hnext hLl ⟨by omega,by rw[hpl,hmul];omega,by rw[List.drop_of_length_le (by rw[hpl,hmul];omega)]⟩
   ·rw[if_neg hw,if_pos rfl];exact Qyk L n l (pre++[0]) [] sg (at_+1) (at_+1) hnext hLl ⟨by omega,by rw[hpl];omega,by rw[List.drop_of_length_le (by rw[hpl];omega)]⟩
  ·rw[if_neg hx];have hO:cutO (ksOf n sg at_ fr) x=[]:=by unfold cutO;rw[if_neg hx]
   rw[hO,Qyi n sg at_ fr x (by omega)];simp only[List.flatMap_nil,List.nil_append]
   by_cases hw:at_+1=n
   ·rw[if_pos hw];have h0:(ksOf n (sg+1) 0 0).2.2.1-(ksOf n (sg+1) 0 0).2.2.2=0:=rfl;rw[if_pos h0];exact Qyk L n l (pre++[x]) [] (sg+1) 0 0 hnext hLl ⟨by omega,by rw[hpl,hmul];omega,by rw[List.drop_of_length_le (by rw[hpl,hmul];omega)]⟩
   ·rw[if_neg hw,if_neg hx];have h0:¬(ksOf n sg (at_+1) fr).2.2.1-(ksOf n sg (at_+1) fr).2.2.2=0:=by
     unfold ksOf;dsimp only;omega
    rw[if_neg h0];exact Qyk L n l (pre++[x]) (held++[x]) sg (at_+1) fr hnext hLl ⟨by omega,by rw[hpl];omega,by rw[hheld,List.drop_append_of_le_length (by omega)]⟩
def nOf(a0:Int):Nat:=if 1<a0 then a0.toNat else 1
theorem Qyl(a0:Int):(Qtn a0).1=ksOf (nOf a0) 0 0 0:=by
 unfold Qtn ksOf nOf;dsimp only;split
 ·rw[Int.toNat_of_nonneg (by omega)];rfl
 ·rfl
noncomputable def allF(a0:Int)(l:List Int):List C.Fd:=(cutA (ksOf (nOf a0) 0 0 0) l).1.flatMap (fndC l (nOf a0))
theorem Qym(a0:Int)(l:List Int)(hb:Bytes l)(hl:l.length≤100000)(k:Nat)(hk:2000000≤k):Qcm.f k a0 l=some (allF a0 l):=by
 obtain⟨K',held',ch',fo',em',h⟩:=Qyh k l (Qtn a0).1 [] 0 0 0 [] hb (by simp[Bytes]) (by simp[Free]) qq_30 hk;unfold Qcm.f;rw[if_pos hl];have h':Qtk k (Qtn a0) l=some (K',held',ch',fo',em',[]++fnd (Qtn a0).1 [] l):=h;rw[h',Option.bind_some,List.nil_append,Qyl];unfold allF;rw[Qyk l (nOf a0) l [] [] 0 0 0 rfl (by omega) ⟨by unfold nOf;split<;>omega,by simp,by simp⟩]
def rB:Rec:=⟨false,1,⟨#[97]⟩,⟨#[]⟩⟩
def lB:List Int:=[5,2,1,1,97,9,178,219,227,238,248,239,180,212,0]
theorem lB_is:Qvs rB=lB:=by kernel_rfl
theorem okRB:okR rB:=⟨by kernel_rfl,by decide,by decide⟩
theorem Qyn:Bytes lB:=by
 unfold lB;intro x hx;simp only[List.mem_cons,List.not_mem_nil,or_false]at hx;omega
theorem recB:recO (lB.take 14)=some rB:=by
 have hb:Bytes (lB.take 14):=fun x hx=>Qyn x (List.mem_of_mem_take hx)
 have hf:Free (lB.take 14):=by
  unfold lB;intro x hx;simp only[List.take_succ_cons,List.take_zero,List.mem_cons,List.not_mem_nil,or_false]at hx;omega
 obtain⟨r1,r2,r3,r4,r5,g1,g2,g3⟩:=Qyf hb hf (by decide) 100 (by decide);have h:=g3 rB okRB (by rw[lB_is];rfl)
 rcases Qyg g2 g3 with⟨e1,e2⟩ |⟨e1,e2⟩
 ·rw[e1,h.2]
 ·exact absurd h.1 e2
theorem allB:allF 64 lB=[(⟨rB,0,0,15⟩:C.Fd)]:=by
 have h:(cutA (ksOf (nOf 64) 0 0 0) lB).1=[(0,0,14)]:=by rfl
 unfold allF;rw[h,List.flatMap_cons,List.flatMap_nil,List.append_nil];unfold fndC;rw[show Qyj lB (nOf 64) (0,0,14)=lB.take 14 from rfl,recB];rfl
theorem salvB:Qcm.f 2000000 64 lB=some [(⟨rB,0,0,15⟩:C.Fd)]:=by
 rw[Qym 64 lB Qyn (by decide) 2000000 (Nat.le_refl _),allB]
theorem salv0:Qcm.f 2000000 64 []=some []:=by
 rw[Qym 64 [] (fun x hx=>by simp at hx) (by decide) 2000000 (Nat.le_refl _)];rfl
theorem recordB:∃t,Qbm.f 400 false 1 ⟨#[97]⟩ ⟨#[]⟩=some t∧bytesOf t=lB:=by
 obtain⟨t,h1,h2⟩:=Qul 400 false 1 ⟨#[97]⟩ ⟨#[]⟩ (by decide) (by decide) (by decide) (by decide) (by decide);exact⟨t,h1,h2.trans lB_is⟩
end Go.Proofs.YteaocbonofboeaaGreat.CodecP
end
section
namespace Go.Proofs.YteaocbonofboeaaGreat.C
open Go.RowKit Go.Proofs.YteaocbonofboeaaGreatW.PrintWords Go.Proofs.YteaocbonofboeaaGreatW.PrintLast Go.Proofs.YteaocbonofboeaaGreatW.PrintMore
def Qax.f:Option Bool:=some true
theorem Qax.calls(r:Bool)(w:World)(h:Qax.f=some r) :
  Calls Tryz.prog 23 #[] w fun e w'=>e=.returned (.bool r)∧Below w.heap.size w w':=by
 obtain rfl:=Option.some.inj h;obtain⟨t,ht,hbt⟩:=CodecP.recordB;have hz:=QA (show t.size=15 by rw[← Qde,hbt];rfl);have hS:∀(W:World) (A:Option Addr) (c:Nat),t.size≤c→Kd.C (Kd.int .u8) W A t.size (bytesOf t)→Calls Tryz.prog 34 #[.int .i64 64,.slice A t.size c] W fun e w'=>∃d,e=.returned d∧Kd.R k74 74 w' W.heap.size (fun _=>True) d [(⟨CodecP.rB,0,0,15⟩:S74)]∧Below W.heap.size W w':=fun W A c hc hC=>by
  have:=Qcm.calls 2000000 64 A c (bytesOf t) [(⟨CodecP.rB,0,0,15⟩:S74)] W;rw[Qde]at this;exact this hC hc (by rw[hbt];exact CodecP.salvB)
 have hz0:(Qcm.f 2000000 64 []:Option (List S74))=some []:=CodecP.salv0;have hu:=Tryz.underlying37;have hu2:=Tryz.underlying74;have hb0:=Below.refl w.heap.size w;have kb:=fun W=>Qdg (P:=Tryz.prog) 9 40 5 Tryz.underlying9 Tryz.underlying40 Tryz.underlying5 t W
 go_enter Tryz.func23,Tryz.ntmps23
 go_upto_region 1 with(fail)
 go_cut [1] (fun v wc=>∃(ad:Addr) (c2:Nat),v=.slice (some ad) 1 c2∧Aside0 (Kd.C k74 wc (some ad) 1 [(⟨CodecP.rB,0,0,15⟩:S74)])∧Aside0 (Below w.heap.size w wc))
 case first =>
  go_wp2_with (first
   |(go_at_call 37;refine(Qbm.calls 400 false 1 ⟨#[97]⟩ ⟨#[]⟩ t _ ht).mono ?_;rintro e w1 ⟨rfl,hb1⟩)
   |(go_at_call 34;refine(hS _ _ _ (Go.grownCap_ge _ _ _ _) (Qlc _ t (by rw[hz.out];decide))).mono ?_;rintro e w2 ⟨v2,rfl,hR2,hb2⟩;obtain⟨A2,c2,e2⟩:=Kd.R_slice hR2;subst e2))
  go_meet
  case rel =>
   obtain⟨ad,ead,_⟩:=Qjc (Kd.R_reads' hR2).2.2 0 (by decide) (by decide);subst ead;have h1:=Qdi hb1 hb1.size 5 t;exact⟨ad,c2,rfl,⟨(Kd.R_reads' hR2).2.2⟩,⟨Qcv h1 h1.size hb2⟩⟩
 case rest =>
  obtain⟨ad,c2,rfl,HC,HB⟩:=hcut;obtain⟨ad',ead,g,j,a,k,l,b,m⟩:=Qjc HC.out 0 (by decide) (by decide);obtain rfl:=Option.some.inj ead;clear g j k l m ead;have e0:ad.add ((0:Int).toNat*7)=ad:=by first|rfl|simp[Addr.add]
  rw[e0]at a b;replace a:wc.cell? ⟨ad.block,ad.off+2,none⟩=some (.string ⟨#[97]⟩):=a;replace b:wc.cell? ⟨ad.block,ad.off+5,none⟩=some (.int .i64 0):=b;have HX2:=QA a;have HX5:=QA b;clear a b
  go_wp2_with (first
   |(go_at_call 47;refine(Qaw.calls true _ rfl).mono ?_;rintro e w3 ⟨rfl,hb3⟩;have HX23:=QA ((hb3.cell (World.block_lt_of_cell? _ _ HX2.out)).trans HX2.out);have HX53:=QA ((hb3.cell (World.block_lt_of_cell? _ _ HX5.out)).trans HX5.out))
   |(go_at_call 34;refine(Qcm.calls 2000000 64 none 0 [] [] _ (Kd.C_nil _ _) (Nat.le_refl _) hz0).mono ?_;rintro e w4 ⟨v4,rfl,hR4,hb4⟩;obtain⟨A4,c4,e4⟩:=Kd.R_slice hR4;subst e4;have n:=((hb4.cell (World.block_lt_of_cell? _ _ HX23.out)).trans HX23.out);have o:=((hb4.cell (World.block_lt_of_cell? _ _ HX53.out)).trans HX53.out)))
  go_ret
  have h3:=Qcv HB.out HB.out.size hb3;exact⟨rfl,Qcv h3 h3.size hb4⟩
end Go.Proofs.YteaocbonofboeaaGreat.C
end
section
namespace Go.Proofs.YteaocbonofboeaaGreat.C
open Go.RowKit Go.Proofs.YteaocbonofboeaaGreatW.PrintWords Go.Proofs.YteaocbonofboeaaGreatW.PrintLast Go.Proofs.YteaocbonofboeaaGreatW.PrintMore
attribute [local go_sem] Qie Qif Qig Qih Qii Qij Qik Qil
def Qba.f(k:Nat)  : Option (Bool):=(Qaq.f k (([1,2,3]:List Int)) (([(⟨1,9⟩:S158)]:List (S158))) 2).bind fun t375=>((Qax.f).bind fun t378=>(if t378=true then(some ((strOfNums t375).toList == ([1,9]:List UInt8)))else(some false)))
theorem Qba.calls(k:Nat) (r:Bool)(w:World)(h:Qba.f k  = some r) :
  Calls Tryz.prog 38 #[] w fun e w'=>e=.returned (.bool r)∧Below w.heap.size w w':=by
 have hu158:=Tryz.underlying158;have hu81:=Tryz.underlying81;have HB:=QA (Below.refl w.heap.size w);have H:((Qaq.f k (([1,2,3]:List Int)) (([(⟨1,9⟩:S158)]:List (S158))) 2).bind fun b=>((Qax.f).bind fun c=>(if c=true then(some ((strOfNums b).toList == ([1,9]:List UInt8)))else(some false))))=some r:=h;clear h;obtain⟨j,d⟩:∃y_:List Int,y_=(([1,2,3]:List Int)):=⟨_,rfl⟩;replace H:((Qaq.f k j (([(⟨1,9⟩:S158)]:List (S158))) 2).bind fun b=>((Qax.f).bind fun c=>(if c=true then(some ((strOfNums b).toList == ([1,9]:List UInt8)))else(some false))))=some r:=by first |(rw[d];with_reducible exact H) |(have n:=(Option.bind_some _ _).symm.trans H;rw[d];with_reducible exact n) |(have n:=(Option.bind_some _ _).symm.trans H;with_reducible exact n)|with_reducible exact H |(rw[d];exact H)|exact H
 have l:=QA d;clear d;obtain⟨o,g⟩:∃y_:List (S158),y_=(([(⟨1,9⟩:S158)]:List (S158))):=⟨_,rfl⟩;replace H:((Qaq.f k j o 2).bind fun b=>((Qax.f).bind fun c=>(if c=true then(some ((strOfNums b).toList == ([1,9]:List UInt8)))else(some false))))=some r:=by first |(rw[g];with_reducible exact H) |(have n:=(Option.bind_some _ _).symm.trans H;rw[g];with_reducible exact n) |(have n:=(Option.bind_some _ _).symm.trans H;with_reducible exact n)|with_reducible exact H |(rw[g];exact H)|exact H
 have m:=QA g;clear g;replace H:=Option.bind_eq_some_iff.mp H;obtain⟨b,v,H⟩:=H;have A1:=QA v;clear v;replace H:=Option.bind_eq_some_iff.mp H;obtain⟨c,x,H⟩:=H;have A2:=QA x;clear x
 by_cases c3:c=true
 ·subst c3;rw[if_pos rfl]at H;obtain rfl:=Option.some.inj H
  go_enter Tryz.func38,Tryz.ntmps38
  go_wp2_with (first |((with_reducible refine Qft (N:=2) rfl ?_);refine Kd.R_lit (Kd.int .u8) _ 5 ?hg (N:=2) ?hd (xs:=([1,2,3]:List Int)) (inner:=[.int .u8 1,.int .u8 2,.int .u8 3]) (ok:=fun _=>True) (okp:=fun _=>True) ?hr ?hp (fun _ hk=>hk) trivial (Below.refl _ _) (Nat.le_refl _) (by simp) ?_;(case hd=>rfl);(case hg=>rfl);(case hr=>exact qq_16);(case hp=>exact(Reps.one (show Kd.M (Kd.int .u8) _ _ _ 1 [.int .u8 1] from rfl) (Reps.one (show Kd.M (Kd.int .u8) _ _ _ 2 [.int .u8 2] from rfl) (Reps.one (show Kd.M (Kd.int .u8) _ _ _ 3 [.int .u8 3] from rfl) (Reps.none _ _)))));intro y w4 t hb hg_ hnew_;clear hg_ hnew_;(first|rw[← l.out]at t |(simp only[Int.reduceToNat]at t;rw[← l.out]at t));have n_:=qn2 (Kd.R_lower t (Qfh qq_b)) (Qfi qq_b hb);clear HB;obtain⟨HO371,HB⟩:=n_;clear hb t) |((with_reducible refine Qft (N:=4) rfl ?_);refine Kd.R_lit k158 _ 158 ?hg (N:=4) ?hd (xs:=([(⟨1,9⟩:S158)]:List (S158))) (inner:=[.int .u64 1,.int .u8 9]) (ok:=fun _=>True) (okp:=fun _=>True) ?hr ?hp (fun _ hk=>hk) trivial (Below.refl _ _) (Nat.le_refl _) (by simp) ?_;(case hd=>rfl);(case hg=>rfl);(case hr=>exact qq_16);(case hp=>exact(Reps.c2 (show Kd.M k158 _ _ _ (⟨1,9⟩:S158) [.int .u64 1,.int .u8 9] from(Qjn _ _ _ (⟨1,9⟩:S158) )) (Reps.none _ _)));intro z w6 u hb hg_ hnew_;clear hg_ hnew_;(first|rw[← m.out]at u |(simp only[Int.reduceToNat]at u;rw[← m.out]at u));have n_:=qn3 (Kd.R_below qq_14 hb) (Kd.R_lower u (Qfh qq_b)) (Qfi qq_b hb);clear HO371 HB;obtain⟨HO371,HO374,HB⟩:=n_;clear hb u;obtain⟨Ao8,co8,eo8⟩:=Kd.R_slice HO374.out;subst eo8;obtain⟨Ao9,co9,eo9⟩:=Kd.R_slice HO371.out;subst eo9) |((with_reducible refine Qim (f:=39) rfl ?_);refine Qgo (some 6) rfl rfl Tryz.func39 qq_4 rfl #[.slice Ao9 j.length co9,.agg #[.slice Ao8 o.length co8,.int .i64 2]] rfl qq_1 ?_;(with_reducible refine(Qaq.calls k _ _ j _ _ o 2 b _ ?side1 ?side2 ?side3 ?side4 A1.out).mono ?_);(case side1=>repeat(first|exact(Kd.R_reads' HO371.out).2.2 |(with_reducible refine Kd.C_alloc ?_ _) |(with_reducible refine Kd.C_drewN ?_ _) |(with_reducible refine Kd.C_drew ?_)));(case side2=>exact(Kd.R_reads' HO371.out).2.1);(case side3=>repeat(first|exact(Kd.R_reads' HO374.out).2.2 |(with_reducible refine Kd.C_alloc ?_ _) |(with_reducible refine Kd.C_drewN ?_ _) |(with_reducible refine Kd.C_drew ?_)));(case side4=>exact(Kd.R_reads' HO374.out).2.1);rintro e D ⟨A,rfl,p,hb⟩;refine⟨_,rfl,?_⟩;have n_:=qn4 (Kd.R_elder' qq_14 (Kd.R_base p) hb) (Kd.R_below qq_28 hb) (Kd.R_lower (Kd.R_new' p (Kd.R_lt qq_14)) (Qfh qq_b)) (Qfi qq_b hb);clear HO371 HO374 HB;obtain⟨HO371,HO374,a,HB⟩:=n_;(try clear hb);(try clear hb2);(try clear hk);(try clear hi);(try clear p)) |((with_reducible refine Qim (f:=23) rfl ?_);refine Qgo (some 7) rfl rfl Tryz.func23 qq_4 rfl #[] rfl qq_1 ?_;(with_reducible refine(Qax.calls  true _ A2.out).mono ?_);rintro e E ⟨rfl,hb⟩;refine⟨_,rfl,?_⟩;have n_:=qn4 (Kd.R_below qq_14 hb) (Kd.R_below qq_28 hb) (Kd.R_below (by(with_reducible repeat(first|apply Kd.R_alloc|apply Kd.R_drewN|apply Kd.R_drew));exact a.out) hb) (Qfi qq_b hb);clear HO371 HO374 a HB;obtain⟨HO371,HO374,a,HB⟩:=n_;(try clear hb);(try clear hb2);(try clear hk);(try clear hi);have B:=Qdc (P:=Tryz.prog) Tryz.underlying40 Tryz.underlying5 Tryz.underlying9 (Kd.own_of_R a.out)))
  go_ret
  exact⟨qq_6,qq_b⟩
 ·replace c3:=Bool.eq_false_iff.mpr c3;subst c3;rw[if_neg (show ¬(false=true)by decide)]at H;obtain rfl:=Option.some.inj H
  go_enter Tryz.func38,Tryz.ntmps38
  go_wp2_with (first |((with_reducible refine Qft (N:=2) rfl ?_);refine Kd.R_lit (Kd.int .u8) _ 5 ?hg (N:=2) ?hd (xs:=([1,2,3]:List Int)) (inner:=[.int .u8 1,.int .u8 2,.int .u8 3]) (ok:=fun _=>True) (okp:=fun _=>True) ?hr ?hp (fun _ hk=>hk) trivial (Below.refl _ _) (Nat.le_refl _) (by simp) ?_;(case hd=>rfl);(case hg=>rfl);(case hr=>exact qq_16);(case hp=>exact(Reps.one (show Kd.M (Kd.int .u8) _ _ _ 1 [.int .u8 1] from rfl) (Reps.one (show Kd.M (Kd.int .u8) _ _ _ 2 [.int .u8 2] from rfl) (Reps.one (show Kd.M (Kd.int .u8) _ _ _ 3 [.int .u8 3] from rfl) (Reps.none _ _)))));intro y G q hb hg_ hnew_;clear hg_ hnew_;(first|rw[← l.out]at q |(simp only[Int.reduceToNat]at q;rw[← l.out]at q));have n_:=qn2 (Kd.R_lower q (Qfh qq_b)) (Qfi qq_b hb);clear HB;obtain⟨HO371,HB⟩:=n_;clear hb q) |((with_reducible refine Qft (N:=4) rfl ?_);refine Kd.R_lit k158 _ 158 ?hg (N:=4) ?hd (xs:=([(⟨1,9⟩:S158)]:List (S158))) (inner:=[.int .u64 1,.int .u8 9]) (ok:=fun _=>True) (okp:=fun _=>True) ?hr ?hp (fun _ hk=>hk) trivial (Below.refl _ _) (Nat.le_refl _) (by simp) ?_;(case hd=>rfl);(case hg=>rfl);(case hr=>exact qq_16);(case hp=>exact(Reps.c2 (show Kd.M k158 _ _ _ (⟨1,9⟩:S158) [.int .u64 1,.int .u8 9] from(Qjn _ _ _ (⟨1,9⟩:S158) )) (Reps.none _ _)));intro z I s hb hg_ hnew_;clear hg_ hnew_;(first|rw[← m.out]at s |(simp only[Int.reduceToNat]at s;rw[← m.out]at s));have n_:=qn3 (Kd.R_below qq_14 hb) (Kd.R_lower s (Qfh qq_b)) (Qfi qq_b hb);clear HO371 HB;obtain⟨HO371,HO374,HB⟩:=n_;clear hb s;obtain⟨Ao17,co17,eo17⟩:=Kd.R_slice HO374.out;subst eo17;obtain⟨Ao18,co18,eo18⟩:=Kd.R_slice HO371.out;subst eo18) |((with_reducible refine Qim (f:=39) rfl ?_);refine Qgo (some 6) rfl rfl Tryz.func39 qq_4 rfl #[.slice Ao18 j.length co18,.agg #[.slice Ao17 o.length co17,.int .i64 2]] rfl qq_1 ?_;(with_reducible refine(Qaq.calls k _ _ j _ _ o 2 b _ ?side1 ?side2 ?side3 ?side4 A1.out).mono ?_);(case side1=>repeat(first|exact(Kd.R_reads' HO371.out).2.2 |(with_reducible refine Kd.C_alloc ?_ _) |(with_reducible refine Kd.C_drewN ?_ _) |(with_reducible refine Kd.C_drew ?_)));(case side2=>exact(Kd.R_reads' HO371.out).2.1);(case side3=>repeat(first|exact(Kd.R_reads' HO374.out).2.2 |(with_reducible refine Kd.C_alloc ?_ _) |(with_reducible refine Kd.C_drewN ?_ _) |(with_reducible refine Kd.C_drew ?_)));(case side4=>exact(Kd.R_reads' HO374.out).2.1);rintro e J ⟨A,rfl,p,hb⟩;refine⟨_,rfl,?_⟩;have n_:=qn4 (Kd.R_elder' qq_14 (Kd.R_base p) hb) (Kd.R_below qq_28 hb) (Kd.R_lower (Kd.R_new' p (Kd.R_lt qq_14)) (Qfh qq_b)) (Qfi qq_b hb);clear HO371 HO374 HB;obtain⟨HO371,HO374,a,HB⟩:=n_;(try clear hb);(try clear hb2);(try clear hk);(try clear hi);(try clear p)) |((with_reducible refine Qim (f:=23) rfl ?_);refine Qgo (some 7) rfl rfl Tryz.func23 qq_4 rfl #[] rfl qq_1 ?_;(with_reducible refine(Qax.calls  false _ A2.out).mono ?_);rintro e K ⟨rfl,hb⟩;refine⟨_,rfl,?_⟩;have n_:=qn4 (Kd.R_below qq_14 hb) (Kd.R_below qq_28 hb) (Kd.R_below (by(with_reducible repeat(first|apply Kd.R_alloc|apply Kd.R_drewN|apply Kd.R_drew));exact a.out) hb) (Qfi qq_b hb);clear HO371 HO374 a HB;obtain⟨HO371,HO374,a,HB⟩:=n_;(try clear hb);(try clear hb2);(try clear hk);(try clear hi)))
  go_ret
  exact⟨qq_6,qq_b⟩
end Go.Proofs.YteaocbonofboeaaGreat.C
end
section
namespace Go.Proofs.YteaocbonofboeaaGreat.C
open Go.RowKit Go.Proofs.YteaocbonofboeaaGreatW.PrintWords Go.Proofs.YteaocbonofboeaaGreatW.PrintLast Go.Proofs.YteaocbonofboeaaGreatW.PrintMore
attribute [local go_sem] Qie Qif Qig Qih Qii Qij Qik Qil
attribute [local go_sem high] Qjr
def Qbo.l0:Nat→List (S37)→List (S37)→Int→Int→Option (Bool)
 | 0,_,_,_,_=>none
 | k+1,x0,x1,x12,x13=>if x13<x12 then(if 0≤x13 then(if x13<(x0.length:Int)then(if x13<(x1.length:Int)then(if(!(((Qiy x0 x13).f0) == ((Qiy x1 x13).f0)) ||(!(((Qiy x0 x13).f1) == ((Qiy x1 x13).f1)) ||(!((((Qiy x0 x13).f2).toList) == (((Qiy x1 x13).f2).toList)) ||(!((((Qiy x0 x13).f3).toList) == (((Qiy x1 x13).f3).toList))))))=true then(some false)else(Qbo.l0 k x0 x1 x12 (wrap64 (x13+1))))else(none))else(none))else(none))else(some true)
def Qbo.f(k:Nat)(l0:List (S37))(l1:List (S37)):Option (Bool):=if(l0.length:Int)=(l1.length:Int)then(Qbo.l0 k l0 l1 (l0.length:Int) 0)else(some false)
theorem Qbo.calls (k:Nat) (A0:Option Addr) (c0:Nat) (l0:List (S37)) (A1:Option Addr) (c1:Nat) (l1:List (S37)) (r:Bool) (w:World) (hr0:Kd.C k37 w A0 l0.length l0) (hc0:l0.length≤c0) (hr1:Kd.C k37 w A1 l1.length l1) (hc1:l1.length≤c1) (h:Qbo.f k l0 l1=some r) :
  Calls Tryz.prog 35 #[.slice A0 l0.length c0,.slice A1 l1.length c1] w fun e w'=>e=.returned (.bool r)∧Drawn0 w w':=by
 have hu37:=Tryz.underlying37;have B:=QA hr0;have M:=QA hc0;clear hr0 hc0;have D:=QA hr1;have O:=QA hc1;clear hr1 hc1;have H:(if(l0.length:Int)=(l1.length:Int)then(Qbo.l0 k l0 l1 (l0.length:Int) 0)else(some false))=some r:=h;clear h
 by_cases c3:(l0.length:Int)=(l1.length:Int)
 ·rw [if_pos c3]at H;have v:((l0.length:Int) == (l1.length:Int))=true:=beq_iff_eq.mpr c3;have x:((l0.length:Int) != (l1.length:Int))=false:=bne_eq_false_iff_eq.mpr c3;have y:(l0.length == l1.length)=true:=by first|simpa using c3 |(simp at c3 ⊢;omega)
  clear c3;have H':=QA H;clear H
  go_enter Tryz.func35,Tryz.ntmps35
  go_wp2
  repeat(go_quiet (fail);try go_wp2)
  go_loopg [13] k (fun kq I w'=>∃(a:Int),I=.int .i64 a∧Aside0 (Qbo.l0 kq l0 l1 (l0.length:Int) a=some r)∧Aside0 (kq≤k)∧Drawn0 w w')
  case atStart=>exact⟨(0),qq_5,H',⟨Nat.le_refl _⟩,by repeat(first|exact Drawn0.refl _|apply Drawn0.step)⟩
  case round =>
   clear H'
   try clear c1
   try clear c3
   try clear v
   try clear x
   try clear y
   obtain⟨a,rfl,HA,HK1,⟨m1,rfl⟩⟩:=hrel
   cases gk with
   | zero=>exact absurd HA.out (by simp[Qbo.l0])
   | succ k1 =>
    have H:=HA.out;clear HA;simp only[Qbo.l0]at H
    by_cases c4:a<(l0.length:Int)
    ·rw [if_pos c4]at H;have E:=decide_eq_true c4;clear c4
     by_cases c5:0≤a
     ·rw [if_pos c5]at H;have J:=decide_eq_true c5;clear c5
      by_cases c6:a<(l0.length:Int)
      ·rw[if_pos c6]at H;have K:=decide_eq_true c6;clear c6
       by_cases c7:a<(l1.length:Int)
       ·rw[if_pos c7]at H;have L:=decide_eq_true c7;clear c7
        by_cases c8:(!(((Qiy l0 a).f0) == ((Qiy l1 a).f0)) ||(!(((Qiy l0 a).f1) == ((Qiy l1 a).f1)) ||(!((((Qiy l0 a).f2).toList) == (((Qiy l1 a).f2).toList)) ||(!((((Qiy l0 a).f3).toList) == (((Qiy l1 a).f3).toList))))))=true
        ·rw[if_pos c8]at H;have G:(!(((Qiy l0 a).f0) == ((Qiy l1 a).f0)) ||(!(((Qiy l0 a).f1) == ((Qiy l1 a).f1)) ||(!((((Qiy l0 a).f2).toList) == (((Qiy l1 a).f2).toList)) ||(!((((Qiy l0 a).f3).toList) == (((Qiy l1 a).f3).toList))))))=true:=c8;clear c8;obtain rfl:=Option.some.inj H;have b:0≤(a:Int):=of_decide_eq_true qq_2;have c:a<(l0.length:Int):=of_decide_eq_true qq_2;obtain⟨z,j,m,n,o,p⟩:=Qiz B.out a b c
         cases j
         replace b:=eq_true b;replace c:=eq_true c;have d:0≤(a:Int):=of_decide_eq_true qq_2;have g:a<(l1.length:Int):=of_decide_eq_true qq_2;obtain⟨A,l,q,s,t,u⟩:=Qiz D.out a d g
         cases l
         replace d:=eq_true d;replace g:=eq_true g;go_wp2
         repeat(go_quiet (fail);try go_wp2)
         go_ret
         exact⟨by first|rfl |(simp;done) |(simp[*];done),by repeat(first|exact Drawn0.refl _|apply Drawn0.step)⟩
        ·rw[if_neg c8]at H;have G:(!(((Qiy l0 a).f0) == ((Qiy l1 a).f0)) ||(!(((Qiy l0 a).f1) == ((Qiy l1 a).f1)) ||(!((((Qiy l0 a).f2).toList) == (((Qiy l1 a).f2).toList)) ||(!((((Qiy l0 a).f3).toList) == (((Qiy l1 a).f3).toList))))))=false:=by simpa using c8
         clear c8;have H':=QA H;clear H;have b:0≤(a:Int):=of_decide_eq_true qq_2;have c:a<(l0.length:Int):=of_decide_eq_true qq_2;obtain⟨z,j,m,n,o,p⟩:=Qiz B.out a b c
         cases j
         replace b:=eq_true b;replace c:=eq_true c;have d:0≤(a:Int):=of_decide_eq_true qq_2;have g:a<(l1.length:Int):=of_decide_eq_true qq_2;obtain⟨A,l,q,s,t,u⟩:=Qiz D.out a d g
         cases l
         replace d:=eq_true d;replace g:=eq_true g;go_wp2
         repeat(go_quiet (fail);try go_wp2)
         go_roundg k1
         case measure=>have:=HK1.out;omega
         case rel=>exact⟨(wrap64 (a+1)),qq_5,H',⟨by have:=HK1.out;omega⟩,by repeat(first|exact Drawn0.refl _|apply Drawn0.step)⟩
       ·rw[if_neg c7]at H;exact absurd H (by simp)
      ·rw[if_neg c6]at H;exact absurd H (by simp)
     ·rw[if_neg c5]at H;exact absurd H (by simp)
    ·rw[if_neg c4]at H;have E:=decide_eq_false c4;clear c4;obtain rfl:=Option.some.inj H;go_wp2
     repeat(go_quiet (fail);try go_wp2)
     go_ret
     exact⟨by first|rfl |(simp;done) |(simp[*];done),by repeat(first|exact Drawn0.refl _|apply Drawn0.step)⟩
 ·rw[if_neg c3]at H;have v:((l0.length:Int) == (l1.length:Int))=false:=beq_eq_false_iff_ne.mpr c3;have x:((l0.length:Int) != (l1.length:Int))=true:=bne_iff_ne.mpr c3;have y:(l0.length == l1.length)=false:=by first|simpa using c3 |(simp at c3 ⊢;omega)
  obtain rfl:=Option.some.inj H
  go_enter Tryz.func35,Tryz.ntmps35
  go_wp2
  repeat(go_quiet (fail);try go_wp2)
  go_ret
  exact⟨by first|rfl |(simp;done) |(simp[*];done),by repeat(first|exact Drawn0.refl _|apply Drawn0.step)⟩
end Go.Proofs.YteaocbonofboeaaGreat.C
end
