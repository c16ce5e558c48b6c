/- Merged texts. -/
import Derived.Test.YteaocbonofboeaaGreatME23
import Derived.Test.YteaocbonofboeaaGreatME17
import Derived.Test.YteaocbonofboeaaGreatME02
import Derived.Test.YteaocbonofboeaaGreatME21
import Derived.Test.YteaocbonofboeaaGreatME20
import Derived.Test.YteaocbonofboeaaGreatME11
set_option linter.unusedVariables false
set_option linter.unusedSimpArgs false
set_option maxHeartbeats 8000000
set_option maxRecDepth 100000
section
namespace Go.Proofs.YteaocbonofboeaaGreat.CodecP
open Go.RowKit Go.Proofs.YteaocbonofboeaaGreat.C Go.Proofs.YteaocbonofboeaaGreatW.PrintWords Go.Proofs.YteaocbonofboeaaGreatW.PrintLast Go.Proofs.YteaocbonofboeaaGreatW.PrintMore
theorem rdR(l:List Rec)(i:Nat)(h:i<l.length):Qiy l (i:Int)=l[i]:=by simp[Qiy,List.getElem?_eq_getElem h]
def chkR(r:Rec):Int:=chk r.f0 r.f2 r.f3
def chkL:List Rec→Int
 | []=>0
 | r :: t=>if chkR r=0 then chkL t else chkR r
def ordL:List Rec→Int
 | []=>0
 | [_]=>0
 | a :: b :: t=>if b.f1≤a.f1 then 8 else ordL (b :: t)
def risL(l:List Rec):Int:=if chkL l=0 then ordL l else chkL l
theorem Qvm{l:List Rec}(h:chkL l=0):∀r∈l,chkR r=0:=by
 induction l with
 | nil=>intro r hr;cases hr
 | cons a t ih =>
  unfold chkL at h
  by_cases ha:chkR a=0
  ·rw[if_pos ha]at h;intro r hr
   rcases List.mem_cons.1 hr with rfl|hr
   ·exact ha
   ·exact ih h r hr
  ·rw[if_neg ha]at h;exact absurd h ha
theorem check_k(k:Nat)(d:Bool)(s:Int)(key v:ByteArray)(hk:1≤k):Qci.f k d s key v=some (chk d key v) :=
 Qdk (g:=fun k=>Qci.f k d s key v) (Qci.mono d s key v) hk (Qlk d s key v)
theorem Qvn{l:List Rec}{i:Nat}(h:i+1<l.length):ordL (l.drop i)=if l[i+1].f1≤l[i].f1 then 8 else ordL (l.drop (i+1)):=by
 rw[List.drop_eq_getElem_cons (by omega),List.drop_eq_getElem_cons h];rfl
theorem Qvo{l:List Rec}(h:l.length≤1):ordL l=0:=by
 match l,h with
 | [],_=>rfl
 | [_],_=>rfl
theorem Qvp(l:List Rec)(hl:l.length≤4611686018427387903):∀(d i k:Nat),i+d=l.length→d+1≤k→Qck.l1 k l ((i+1:Nat):Int)=some (ordL (l.drop i))
 | 0,i,k,h,hk=>by
  obtain⟨k,rfl⟩:∃m,k=m+1:=⟨k-1,by omega⟩;unfold Qck.l1;rw[if_neg (by omega),Qvo qq_24]
 | d+1,i,k,h,hk=>by
  obtain⟨k,rfl⟩:∃m,k=m+1:=⟨k-1,by omega⟩;unfold Qck.l1
  by_cases hi:i+1<l.length
  ·have w1:=Quc (i+1) (by omega) (by omega);rw[Nat.add_sub_cancel]at w1;rw[if_pos (by omega),if_pos (by omega),w1,if_pos (by omega),if_pos (by omega),rdR l (i+1) hi,rdR l i (by omega),Qvn hi]
   by_cases ho:l[i+1].f1≤l[i].f1
   ·rw[if_pos ho,if_pos ho]
   ·rw[if_neg ho,if_neg ho,Qub (i+1) (by omega)];exact Qvp l hl d (i+1) k (by omega) (by omega)
  ·rw[if_neg (by omega),Qvo qq_24]
theorem Qvq(l:List Rec)(hl:l.length≤4611686018427387903):∀(d i k:Nat),i+d=l.length→d+l.length+5≤k→Qck.l0 k l l (l.length:Int) (i:Int)=some (if chkL (l.drop i)=0 then ordL l else chkL (l.drop i))
 | 0,i,k,h,hk=>by
  obtain⟨k,rfl⟩:∃m,k=m+1:=⟨k-1,by omega⟩;unfold Qck.l0;rw[if_neg (by omega),List.drop_of_length_le (by omega)];exact Qvp l hl l.length 0 k (by omega) (by omega)
 | d+1,i,k,h,hk=>by
  obtain⟨k,rfl⟩:∃m,k=m+1:=⟨k-1,by omega⟩;have hi:i<l.length:=by omega
  unfold Qck.l0;rw[if_pos (by omega),if_pos (by omega),if_pos (by omega),rdR l i hi,check_k k _ _ _ _ (by omega),Option.bind_some,List.drop_eq_getElem_cons hi];unfold chkL
  by_cases hc:chkR l[i]=0
  ·rw[if_pos hc,if_pos (show chk l[i].f0 l[i].f2 l[i].f3=0 from hc),Qub i (by omega)];exact Qvq l hl d (i+1) k (by omega) (by omega)
  ·rw[if_neg hc,if_neg (show ¬chk l[i].f0 l[i].f2 l[i].f3=0 from hc),if_neg hc];rfl
theorem Qvr(l:List Rec)(k:Nat)(hl:l.length≤4611686018427387903)(hk:2*l.length+5≤k):Qck.f k l=some (risL l) :=
 Qvq l hl l.length 0 k (by omega) (by omega)
def Qvs(r:Rec):List Int:=Qml (Qlm r.f0 r.f1 r.f2 r.f3)
def fsz(r:Rec):Int:=((Qvs r).length:Int)
def Wf(l:List Rec):Prop:=∀r∈l,0≤r.f1∧r.f1<18446744073709551616
theorem Qvt(d:Bool)(s:Int)(key v:ByteArray):(Qlm d s key v).length≤key.size+v.size+31:=by
 have h1:=Qla 9 s;have h2:=Qla 9 (key.size:Int);have h3:=Qla 9 (v.size:Int);have h4:=Qde key;have h5:=Qde v
 cases d
 ·simp only[Qlm,List.length_append,List.length_cons,List.length_nil,Bool.false_eq_true,if_false];omega
 ·simp only[Qlm,List.length_append,List.length_cons,List.length_nil,if_true];omega
theorem Qvu(b:List Int):0<(Qml b).length∧(Qml b).length≤2*b.length+18:=by
 have h:=Qmm _ (b++leb (Qmf 0 b) 8) (Nat.le_refl _);rw[List.length_append,Qjs]at h;unfold Qml;rw[List.length_append];simp;omega
theorem Qvv(r:Rec)(hc:chkR r=0):1≤fsz r∧fsz r≤8388608:=by
 have h1:=Qll hc;have h2:=Qvt r.f0 r.f1 r.f2 r.f3;have h3:=Qvu (Qlm r.f0 r.f1 r.f2 r.f3);unfold fsz Qvs;omega
theorem Qvw(r:Rec)(hc:chkR r=0)(h0:0≤r.f1)(h1:r.f1<18446744073709551616):Qbu.f r.f0 r.f1 r.f2 r.f3=some (Qvs r,0):=by
 have h2:=Qll hc;have h3:=Qvt r.f0 r.f1 r.f2 r.f3;unfold Qbu.f Qch.f;rw[if_pos h0,if_pos h1,if_pos (show chk r.f0 r.f2 r.f3=0 from hc),Option.bind_some,if_pos rfl];unfold Qbv.f;rw[if_pos (by dsimp only;omega),Option.bind_some];rfl
def Qvx(e s:Int)(l:List Rec):List Int × Int:=Qvg e s (l.map fsz) [] 0 (Quo e s 0) 0
theorem Qvy{l:List Rec}{i:Nat}(h:i<l.length):(l.take (i+1)).map fsz=(l.take i).map fsz++[fsz l[i]]:=by rw[List.take_succ_eq_append_getElem h,List.map_append];rfl
theorem Qvz{e s:Int}(h:Good e s)(l:List Rec)(hl:l.length≤1000000)(hw:Wf l)(hc:chkL l=0):∀(d i k:Nat),i+d=l.length→d+l.length+5≤k →
  Qca.l0 k ((l.take i).map fsz) l (l.length:Int) (i:Int) e s=some ((Qvx e s l).1,l.map fsz,(Qvx e s l).2)
 | 0,i,k,hi,hk=>by
  obtain⟨k,rfl⟩:∃m,k=m+1:=⟨k-1,by omega⟩;unfold Qca.l0;rw[if_neg (by omega),List.take_of_length_le (by omega),Qvl h (l.map fsz) k (by rw[List.length_map];exact hl) (fun x hx=>by
   obtain⟨r,hr,rfl⟩:=List.mem_map.1 hx;have:=Qvv r (Qvm hc r hr);omega) (by rw[List.length_map];omega),Option.bind_some]
  rfl
 | d+1,i,k,hi,hk=>by
  obtain⟨k,rfl⟩:∃m,k=m+1:=⟨k-1,by omega⟩;have hil:i<l.length:=by omega
  have hr:=List.getElem_mem hil;have hln:((l.take i).map fsz).length=i:=by rw[List.length_map,List.length_take];omega
  unfold Qca.l0;rw[if_pos (by omega),if_pos (by omega),if_pos (by omega),rdR l i hil,Qvw l[i] (Qvm hc _ hr) (hw _ hr).1 (hw _ hr).2,Option.bind_some,if_pos (by omega),Qub i (by omega)];have:=Qvz h l hl hw hc d (i+1) k (by omega) (by omega);rw[Qvy hil]at this;exact this
def Qwa(e s:Int)(l:List Rec):List Int × List Int × Int:=if 12≤e∧e≤24∧1≤s∧s≤65536 then if risL l=0 then((Qvx e s l).1,l.map fsz,(Qvx e s l).2)else([],[],risL l)else([],[],1)
theorem Qwb{l:List Rec}(h:risL l=0):chkL l=0:=by
 unfold risL at h
 by_cases hc:chkL l=0
 ·exact hc
 ·rw[if_neg hc]at h;exact h
theorem Qwc(e s:Int)(l:List Rec)(k:Nat)(hl:l.length≤1000000)(hw:Wf l)(hk:2*l.length+10≤k):Qca.f k e s l=some (Qwa e s l):=by
 unfold Qca.f Qwa
 by_cases hg:12≤e∧e≤24∧1≤s∧s≤65536
 ·rw[Qut hg,Option.bind_some,if_pos rfl,if_pos hg,Qvr l k (by omega) (by omega),Option.bind_some]
  by_cases hr:risL l=0
  ·rw[if_pos hr,if_pos hr];exact Qvz hg l hl hw (Qwb hr) l.length 0 k (by omega) (by omega)
  ·rw[if_neg hr,if_neg hr]
 ·rw[Quu hg,Option.bind_some,if_neg (by decide),if_neg hg]
theorem Qwd(e s:Int):∀(l out:List Int) (n u c:Int),0≤n→n<s→(∀x∈out,0≤x∧x<s)→(Qvg e s l out n u c).2=0 →
  (Qvg e s l out n u c).1.length=out.length+l.length∧∀x∈(Qvg e s l out n u c).1,0≤x∧x<s
 | [],out,n,u,c,h0,h1,ho,h=>⟨by simp[Qvg],ho⟩
 | x :: t,out,n,u,c,h0,h1,ho,h=>by
  unfold Qvg at h ⊢
  by_cases hf:Quz e (Quo e s (s-1)) 0 x=false
  ·rw[if_pos hf]at h;cases h
  ·rw [if_neg hf]at h ⊢
   by_cases hq:Quz e u c x=true
   ·rw[if_pos hq]at h ⊢;have:=Qwd e s t (out++[n]) n (u+x) (c+1) h0 h1 (fun y hy=>by
     rcases List.mem_append.1 hy with hy|hy
     ·exact ho y hy
     ·simp at hy;omega) h
    refine⟨?_,this.2⟩;rw[this.1,List.length_append,List.length_cons];simp;omega
   ·rw[if_neg hq]at h ⊢
    by_cases hs:n+1<s
    ·rw[if_pos hs]at h ⊢;have:=Qwd e s t (out++[n+1]) (n+1) (Quo e s (n+1)+x) 1 (by omega) hs (fun y hy=>by
      rcases List.mem_append.1 hy with hy|hy
      ·exact ho y hy
      ·simp at hy;omega) h
     refine⟨?_,this.2⟩;rw[this.1,List.length_append,List.length_cons];simp;omega
    ·rw[if_neg hs]at h;cases h
abbrev Plc:=S76
def Qwe(e s:Int):Option Int→Int→List Int→List Int→List Plc
 | prev,at_,x :: into,z :: sizes =>
  (⟨x,(if prev=some x then at_ else Quo e s x)%4294967296⟩:Plc) :: Qwe e s (some x) ((if prev=some x then at_ else Quo e s x)+z) into sizes
 | _,_,_,_=>[]
def Qwf(into:List Int)(i:Nat):Option Int:=if i=0 then none else some (rd into ((i:Int)-1))
theorem Qwg{e s:Int}(h:Good e s)(into sizes:List Int)(hl:into.length≤1000000)(hz:sizes.length=into.length)(hi:∀x∈into,0≤x∧x<s)(hx:∀x∈sizes,0≤x∧x≤8388608):∀(d i k:Nat) (out:List Plc) (at_:Int),i+d=into.length→out.length=i→0≤at_→at_≤1000+(i:Int)*8388608→d+1≤k →
  Qbz.l0 k into sizes out at_ into (into.length:Int) (i:Int) e s=some (out++Qwe e s (Qwf into i) at_ (into.drop i) (sizes.drop i),0):=by
 intro d
 induction d with
 | zero =>
  intro i k out at_ hd ho h0 h1 hk;obtain⟨k,rfl⟩:∃m,k=m+1:=⟨k-1,by omega⟩;unfold Qbz.l0;rw[if_neg (by omega),List.drop_of_length_le (by omega)];simp[Qwe]
 | succ d ihd =>
  intro i k out at_ hd ho h0 h1 hk;obtain⟨k,rfl⟩:∃m,k=m+1:=⟨k-1,by omega⟩;have hil:i<into.length:=by omega
  have hxi:0≤rd into (i:Int)∧rd into (i:Int)<s:=by rw[rd_get hil];exact hi _ (List.getElem_mem hil)
  have hzi:0≤rd sizes (i:Int)∧rd sizes (i:Int)≤8388608:=by rw[rd_get (by omega)];exact hx _ (List.getElem_mem (by omega))
  have hH:=Quq e s (rd into (i:Int));have hprev:Qwf into (i+1)=some (rd into (i:Int)):=by
   unfold Qwf;rw[if_neg (by omega),show(((i+1:Nat):Int)-1)=(i:Int)by omega]
  rw[Qvi hil,Qvi (l:=sizes) (by omega)];unfold Qbz.l0;rw[if_pos (by omega),if_pos (by omega),if_pos (by omega),Qub i (by omega)]
  by_cases hz0:i=0
  ·have hz1:((i:Nat):Int)=0:=by omega
   rw[if_pos hz1,Qve h _ hxi.1 hxi.2,Option.bind_some,if_pos (by omega),if_pos (by omega),show wrap64 (Quo e s (rd into (i:Int))+rd sizes (i:Int))=Quo e s (rd into (i:Int))+rd sizes (i:Int)by unfold wrap64;omega];have ih:=ihd (i+1) k (out++[⟨rd into (i:Int),Quo e s (rd into (i:Int))%4294967296⟩]) (Quo e s (rd into (i:Int))+rd sizes (i:Int)) (by omega) (by rw[List.length_append,ho];rfl) (by omega) (by omega) (by omega);rw[ih,hprev];have hp0:Qwf into i=none:=by unfold Qwf;rw[if_pos hz0]
   rw[hp0];simp[Qwe]
  ·have hp0:Qwf into i=some (rd into ((i:Int)-1)):=by unfold Qwf;rw[if_neg hz0]
   rw[if_neg (by omega),Quc i (by omega) (by omega),if_pos (by omega),if_pos (by omega),show((i-1:Nat):Int)=(i:Int)-1 by omega]
   by_cases he:rd into (i:Int)=rd into ((i:Int)-1)
   ·rw[if_pos he,if_pos (by omega),if_pos (by omega),show wrap64 (at_+rd sizes (i:Int))=at_+rd sizes (i:Int)by unfold wrap64;omega];have ih:=ihd (i+1) k (out++[⟨rd into (i:Int),at_%4294967296⟩]) (at_+rd sizes (i:Int)) (by omega) (by rw[List.length_append,ho];rfl) (by omega) (by omega) (by omega);rw[ih,hprev,hp0,← he];simp[Qwe]
   ·rw[if_neg he,Qve h _ hxi.1 hxi.2,Option.bind_some,if_pos (by omega),if_pos (by omega),show wrap64 (Quo e s (rd into (i:Int))+rd sizes (i:Int))=Quo e s (rd into (i:Int))+rd sizes (i:Int)by unfold wrap64;omega];have ih:=ihd (i+1) k (out++[⟨rd into (i:Int),Quo e s (rd into (i:Int))%4294967296⟩]) (Quo e s (rd into (i:Int))+rd sizes (i:Int)) (by omega) (by rw[List.length_append,ho];rfl) (by omega) (by omega) (by omega);rw[ih,hprev,hp0];have hne:¬(some (rd into ((i:Int)-1))=some (rd into (i:Int))):=fun e'=>he (Option.some.inj e').symm
    simp[Qwe,hne]
theorem Qwh{e s:Int}{l:List Rec}(h:(Qwa e s l).2.2=0)(hl:l.length≤1000000) :
  Good e s∧risL l=0∧(Qvx e s l).2=0∧Qwa e s l=((Qvx e s l).1,l.map fsz,0)∧(Qvx e s l).1.length=l.length∧∀x∈(Qvx e s l).1,0≤x∧x<s:=by
 unfold Qwa at h ⊢
 by_cases hg:12≤e∧e≤24∧1≤s∧s≤65536
 ·rw[if_pos hg]at h ⊢
  by_cases hr:risL l=0
  ·rw[if_pos hr]at h ⊢;have h2:(Qvx e s l).2=0:=h;have:=Qwd e s (l.map fsz) [] 0 (Quo e s 0) 0 (by omega) (by omega) (by simp) h2;refine⟨hg,hr,h2,by rw[h2],?_,this.2⟩;have h3:(Qvx e s l).1.length=_:=this.1;rw[h3,List.length_map];simp
  ·rw[if_neg hr]at h;exact absurd h hr
 ·rw[if_neg hg]at h;cases h
theorem Qwi(e s:Int)(l:List Rec)(k:Nat)(hl:l.length≤1000000)(hw:Wf l)(hk:2*l.length+10≤k) :
  Qbz.f k e s l=some (if(Qwa e s l).2.2=0 then Qwe e s none 0 (Qvx e s l).1 (l.map fsz)else [],(Qwa e s l).2.2):=by
 unfold Qbz.f;rw[Qwc e s l k hl hw hk,Option.bind_some]
 by_cases h:(Qwa e s l).2.2=0
 ·obtain⟨hg,hr,h2,h3,h4,h5⟩:=Qwh h hl;rw[if_pos h,if_pos h,h,h3];have:=Qwg hg (Qvx e s l).1 (l.map fsz) (by omega) (by rw[List.length_map,h4]) h5 (fun x hx=>by
   obtain⟨r,hr',rfl⟩:=List.mem_map.1 hx;have:=Qvv r (Qvm (Qwb hr) r hr');omega) (Qvx e s l).1.length 0 k [] 0 (by omega) rfl (by omega) (by omega) (by omega)
  exact this
 ·rw[if_neg h,if_neg h]
def few(l:List Rec)(m b:Int):Bool:=l.all (fun r=>decide ((r.f2.size:Int)≤b) && decide ((r.f3.size:Int)≤b)) && decide ((l.length:Int)≤m)
theorem Qwj(l:List Rec)(m b:Int)(hl:l.length≤4611686018427387903):∀(d i k:Nat),i+d=l.length→d+1≤k→Qat.l0 k l m b l (l.length:Int) (i:Int)=some ((l.drop i).all (fun r=>decide ((r.f2.size:Int)≤b) && decide ((r.f3.size:Int)≤b)) && decide ((l.length:Int)≤m))
 | 0,i,k,h,hk=>by
  obtain⟨k,rfl⟩:∃m,k=m+1:=⟨k-1,by omega⟩;unfold Qat.l0;rw[if_neg (by omega),List.drop_of_length_le (by omega)];simp
 | d+1,i,k,h,hk=>by
  obtain⟨k,rfl⟩:∃m,k=m+1:=⟨k-1,by omega⟩;have hi:i<l.length:=by omega
  unfold Qat.l0;rw[if_pos (by omega),if_pos (by omega),if_pos (by omega),rdR l i hi,List.drop_eq_getElem_cons hi,Qub i (by omega),Qwj l m b hl d (i+1) k (by omega) (by omega)];rw[List.all_cons];generalize (l.drop (i+1)).all (fun r=>decide ((r.f2.size:Int)≤b) && decide ((r.f3.size:Int)≤b))=q;generalize l[i]=r
  by_cases h1:(r.f2.size:Int) > b
  ·rw[if_pos h1];simp[show ¬((r.f2.size:Int)≤b)by omega]
  ·rw[if_neg h1]
   by_cases h2:(r.f3.size:Int) > b
   ·rw[if_pos h2];simp[show ¬((r.f3.size:Int)≤b)by omega]
   ·rw[if_neg h2];simp[show((r.f2.size:Int)≤b)by omega,show((r.f3.size:Int)≤b)by omega]
theorem few_is(l:List Rec)(m b:Int)(k:Nat)(hl:l.length≤4611686018427387903)(hk:l.length+1≤k):Qat.f k l m b=some (few l m b):=Qwj l m b hl l.length 0 k (by omega) (by omega)
theorem few_len{l:List Rec}{m b:Int}(h:few l m b=true):(l.length:Int)≤m∧∀r∈l,(r.f2.size:Int)≤b∧(r.f3.size:Int)≤b:=by
 unfold few at h;simp only[Bool.and_eq_true,List.all_eq_true,decide_eq_true_eq]at h;exact⟨h.2,fun r hr=>h.1 r hr⟩
theorem Bytes.app{a b:List Int}(h1:Bytes a)(h2:Bytes b):Bytes (a++b):=fun x hx=>(List.mem_append.1 hx).elim (h1 x) (h2 x)
theorem Bytes.left{a b:List Int}(h:Bytes (a++b)):Bytes a:=fun x hx=>h x (List.mem_append_left _ hx)
theorem Bytes.right{a b:List Int}(h:Bytes (a++b)):Bytes b:=fun x hx=>h x (List.mem_append_right _ hx)
theorem Bytes.cons{a:Int}{b:List Int}(h1:0≤a∧a<256)(h2:Bytes b):Bytes (a :: b):=fun x hx=>by
 rcases List.mem_cons.1 hx with rfl|hx
 ·exact h1
 ·exact h2 x hx
theorem Bytes.tail{a:Int}{b:List Int}(h:Bytes (a :: b)):Bytes b:=fun x hx=>h x (List.mem_cons_of_mem _ hx)
theorem Free.app{a b:List Int}(h1:Free a)(h2:Free b):Free (a++b):=fun x hx=>(List.mem_append.1 hx).elim (h1 x) (h2 x)
theorem Free.cons{a:Int}{b:List Int}(h1:a≠0)(h2:Free b):Free (a :: b):=fun x hx=>by
 rcases List.mem_cons.1 hx with rfl|hx
 ·exact h1
 ·exact h2 x hx
theorem Qwk:∀l:List Int,Free l∨∃a b,l=a++0 :: b∧Free a
 | []=>.inl (fun x hx=>by cases hx)
 | c :: l=>by
  by_cases hc:c=0
  ·exact .inr ⟨[],l,by rw[hc];rfl,fun x hx=>by cases hx⟩
  ·rcases Qwk l with h |⟨a,b,rfl,h⟩
   ·exact .inl (h.cons hc)
   ·exact .inr ⟨c :: a,b,rfl,h.cons hc⟩
theorem Qwl{b:List Int}(hb:Bytes b) :
  (∃a r,b=a++0 :: r∧Free a∧a.length<254∧Qks b=((a.length:Int)+1) :: (a++Qks r)) ∨
  (∃a r,b=a++r∧Free a∧a.length=254∧r≠[]∧Qks b=255 :: (a++Qks r)) ∨
  (Free b∧b.length≤254∧Qks b=((b.length:Int)+1) :: b):=by
 rcases Qwk b with hf |⟨a,r,rfl,hf⟩
 ·by_cases hl:b.length≤254
  ·refine .inr (.inr ⟨hf,hl,?_⟩);rw[Qtx hb hf hl]
   congr 1
   omega
  ·refine .inr (.inl ⟨b.take 254,b.drop 254,(List.take_append_drop 254 b).symm,fun x hx=>hf x (List.mem_of_mem_take hx),by rw[List.length_take];omega,fun h=>by have:=congrArg List.length h;rw[List.length_drop]at this;simp at this;omega,?_⟩);have:=Qty (now:=b.take 254) (rest:=b.drop 254) (hb.take 254) (fun x hx=>hf x (List.mem_of_mem_take hx)) (by rw[List.length_take];omega) (fun h=>by have:=congrArg List.length h;rw[List.length_drop]at this;simp at this;omega);rw[List.take_append_drop]at this;exact this
 ·by_cases hl:a.length<254
  ·refine .inl ⟨a,r,rfl,hf,hl,?_⟩;rw[Qtw hb.left hf hl]
   congr 1
   omega
  ·have h1:a++0 :: r=a.take 254++(a.drop 254++0 :: r):=by rw[← List.append_assoc,List.take_append_drop]
   refine .inr (.inl ⟨a.take 254,a.drop 254++0 :: r,h1,fun x hx=>hf x (List.mem_of_mem_take hx),by rw[List.length_take];omega,by simp,?_⟩);rw[h1];exact Qty (hb.left.take 254) (fun x hx=>hf x (List.mem_of_mem_take hx)) (by rw[List.length_take];omega) (by simp)
theorem Qwm:∀(n:Nat) (b:List Int),b.length≤n→Bytes b→Free (Qks b)∧Bytes (Qks b)∧Qks b≠[]
 | n,b,hn,hb=>by
  rcases Qwl hb with⟨a,r,rfl,hf,hl,e⟩ |⟨a,r,rfl,hf,hl,hr,e⟩ |⟨hf,hl,e⟩
  ·rw[List.length_append,List.length_cons]at hn
   match n,hn with
   | n+1,hn =>
    have ih:=Qwm n r (by omega) hb.right.tail;rw[e];exact⟨(hf.app ih.1).cons (by omega),(hb.left.app ih.2.1).cons (by omega),by simp⟩
  ·rw[List.length_append]at hn
   match n,hn with
   | 0,hn=>omega
   | n+1,hn =>
    have ih:=Qwm n r (by omega) hb.right;rw[e];exact⟨(hf.app ih.1).cons (by omega),(hb.left.app ih.2.1).cons (by omega),by simp⟩
  ·rw[e];exact⟨hf.cons (by omega),hb.cons (by omega),by simp⟩
def Qwn:Nat→List Int→List Int
 | 0,_=>[]
 | _,[]=>[]
 | k+1,c :: t=>t.take (c.toNat-1)++(if c<255∧t.drop (c.toNat-1)≠[]then 0 :: Qwn k (t.drop (c.toNat-1))else Qwn k (t.drop (c.toNat-1)))
theorem Qwo(k:Nat):Qwn k []=[]:=by cases k<;>rfl
theorem Qwp:∀(n:Nat) (b:List Int) (k:Nat),b.length≤n→Bytes b→b.length+1≤k→Qwn k (Qks b)=b
 | n,b,k,hn,hb,hk=>by
  obtain⟨k,rfl⟩:∃m,k=m+1:=⟨k-1,by omega⟩
  rcases Qwl hb with⟨a,r,rfl,hf,hl,e⟩ |⟨a,r,rfl,hf,hl,hr,e⟩ |⟨hf,hl,e⟩
  ·rw[List.length_append,List.length_cons]at hn hk
   match n,hn with
   | n+1,hn =>
    have ih:=Qwp n r k (by omega) hb.right.tail (by omega);have hs:=Qwm _ r (Nat.le_refl _) hb.right.tail;have hc:((a.length:Int)+1).toNat-1=a.length:=by omega
    rw[e,Qwn,hc,List.take_left' rfl,List.drop_left' rfl,if_pos ⟨by omega,hs.2.2⟩,ih]
  ·rw[List.length_append]at hn hk
   match n,hn with
   | 0,hn=>omega
   | n+1,hn =>
    have ih:=Qwp n r k (by omega) hb.right (by omega);have hc:(255:Int).toNat-1=a.length:=by omega
    rw[e,Qwn,hc,List.take_left' rfl,List.drop_left' rfl,if_neg (fun h=>by omega),ih]
  ·have hc:((b.length:Int)+1).toNat-1=b.length:=by omega
   rw[e,Qwn,hc,List.take_of_length_le (Nat.le_refl _),List.drop_of_length_le (Nat.le_refl _),if_neg (fun h=>h.2 rfl),Qwo,List.append_nil]
theorem Qwq{a b:List Int}(ha:Bytes a)(hb:Bytes b)(h:Qks a=Qks b):a=b:=by
 have h1:=Qwp _ a (a.length+b.length+1) (Nat.le_refl _) ha (by omega);have h2:=Qwp _ b (a.length+b.length+1) (Nat.le_refl _) hb (by omega);exact h1.symm.trans ((congrArg _ h).trans h2)
theorem Qwr:∀ {a b x y:List Int},Free a→Free b→a++0 :: x=b++0 :: y→a=b∧x=y
 | [],[],x,y,_,_,h=>⟨rfl,by simpa using h⟩
 | [],c :: b,x,y,_,hb,h=>by
  have h1:=List.cons.inj h;exact absurd h1.1.symm (hb c (List.mem_cons_self ..))
 | c :: a,[],x,y,ha,_,h=>by
  have h1:=List.cons.inj h;exact absurd h1.1 (ha c (List.mem_cons_self ..))
 | c :: a,d :: b,x,y,ha,hb,h=>by
  have h1:=List.cons.inj h;have ih:=Qwr (fun x hx=>ha x (List.mem_cons_of_mem _ hx)) (fun x hx=>hb x (List.mem_cons_of_mem _ hx)) h1.2;exact⟨by rw[h1.1,ih.1],ih.2⟩
theorem Qws:∀(n:Nat) (x:Int),Bytes (leb x n)
 | 0,_=>fun y hy=>by cases hy
 | n+1,x=>(Qws n (x/256)).cons (by omega)
theorem Qwt{a b x y:List Int}(ha:Bytes a)(hb:Bytes b)(h:Qml a++x=Qml b++y):a=b∧x=y:=by
 unfold Qml at h;rw[List.append_assoc,List.append_assoc]at h;have hA:=ha.app (Qws 8 (Qmf 0 a));have hB:=hb.app (Qws 8 (Qmf 0 b));have h1:=Qwr (Qwm _ _ (Nat.le_refl _) hA).1 (Qwm _ _ (Nat.le_refl _) hB).1 h;have h2:=Qwq hA hB h1.1;exact⟨(List.append_inj' h2 (by rw[Qjs,Qjs])).1,h1.2⟩
theorem Qwu:∀(n:Nat) {x y:Int} {a b:List Int},0≤x→0≤y→vput n x++a=vput n y++b→x=y∧a=b
 | 0,x,y,a,b,_,_,h=>by
  have h1:=List.cons.inj h;exact⟨h1.1,by simpa using h1.2⟩
 | n+1,x,y,a,b,hx,hy,h=>by
  unfold vput at h
  by_cases h1:x<128
  ·by_cases h2:y<128
   ·rw[if_pos h1,if_pos h2]at h;have h3:=List.cons.inj h;exact⟨h3.1,by simpa using h3.2⟩
   ·rw[if_pos h1,if_neg h2]at h;have h3:=(List.cons.inj h).1;omega
  ·by_cases h2:y<128
   ·rw[if_neg h1,if_pos h2]at h;have h3:=(List.cons.inj h).1;omega
   ·rw[if_neg h1,if_neg h2]at h;have h3:=List.cons.inj h;have ih:=Qwu n (by omega) (by omega) h3.2;exact⟨by omega,ih.2⟩
theorem Qwv:∀(n:Nat) (x:Int),0≤x→x<256*128^n→Bytes (vput n x)
 | 0,x,h0,h1=>by
  unfold vput;intro y hy
  rcases List.mem_singleton.1 hy with rfl
  omega
 | n+1,x,h0,h1=>by
  unfold vput;split
  ·intro y hy
   rcases List.mem_singleton.1 hy with rfl
   omega
  ·refine(Qwv n (x/128) (by omega) ?_).cons (by omega);rw[Int.pow_succ]at h1;omega
theorem Qww(x:Int)(h0:0≤x)(h1:x<18446744073709551616):Bytes (vput 9 x):=Qwv 9 x h0 (by omega)
theorem Qwx(d:Bool)(s:Int)(key v:ByteArray)(h0:0≤s)(h1:s<18446744073709551616)(hk:key.size≤4611686018427387904)(hv:v.size≤4611686018427387904):Bytes (Qlm d s key v):=by
 unfold Qlm;refine Bytes.app (Bytes.app (Bytes.app ?_ (Qww s h0 h1)) ((Qww _ (by omega) (by omega)).app (Qqr key))) ?_
 ·intro y hy
  rcases List.mem_singleton.1 hy with rfl
  split<;>omega
 ·split
  ·intro y hy;cases hy
  ·exact(Qww _ (by omega) (by omega)).app (Qqr v)
theorem Qwy{key v:ByteArray}(h:chk true key v=0):v=ByteArray.empty:=by
 unfold chk at h;split at h
 ·cases h
 split at h
 ·cases h
 split at h
 ·cases h
 ·rename_i h3;have h4:v.toList=[]:=by simpa using h3
  have h5:=(Qua v).1 h4;refine Qtq (List.eq_nil_of_length_eq_zero ?_);rw[Qde];exact h5
theorem Qwz{d d':Bool}{s s':Int}{key key' v v':ByteArray}(h0:0≤s)(h0':0≤s')(hc:chk d key v=0)(hc':chk d' key' v'=0)(h:Qlm d s key v=Qlm d' s' key' v') :
  d=d'∧s=s'∧key=key'∧v=v':=by
 unfold Qlm at h;have hz:∀(q:Bool) (a b c:List Int),[if q=true then(3:Int)else 2]++a++b++c=(if q=true then(3:Int)else 2) :: (a++(b++c)):=fun q a b c=>by simp
 rw[hz,hz]at h;have h1:=List.cons.inj h;have hd:d=d':=by
  cases d<;>cases d' <;> first|rfl |(have:=h1.1;simp at this)
 subst hd;have h2:=Qwu 9 h0 h0' h1.2;have h3:=h2.2;rw[List.append_assoc,List.append_assoc]at h3;have h4:=Qwu 9 (by omega) (by omega) h3;have hks:(bytesOf key).length=(bytesOf key').length:=by rw[Qde,Qde];omega
 have h5:=List.append_inj h4.2 hks;refine⟨rfl,h2.1,Qtq h5.1,?_⟩
 cases d with
 | true=>rw[Qwy hc,Qwy hc']
 | false =>
  have h6:=h5.2;simp only[Bool.false_eq_true,if_false]at h6;exact Qtq (Qwu 9 (by omega) (by omega) h6).2
def okR(r:Rec):Prop:=chkR r=0∧0≤r.f1∧r.f1<18446744073709551616
theorem Qxa{r:Rec}(h:okR r):Bytes (Qlm r.f0 r.f1 r.f2 r.f3):=by
 have:=Qll h.1;exact Qwx _ _ _ _ h.2.1 h.2.2 (by omega) (by omega)
theorem Qxb{r r':Rec}{x y:List Int}(h:okR r)(h':okR r')(e:Qvs r++x=Qvs r'++y):r=r'∧x=y:=by
 have h1:=Qwt (Qxa h) (Qxa h') e;have h2:=Qwz h.2.1 h'.2.1 h.1 h'.1 h1.1;refine⟨?_,h1.2⟩
 cases r;cases r'
 obtain⟨a,b,c,d⟩:=h2;simp only at a b c d;rw[a,b,c,d]
def NoRec(T:List Int):Prop:=∀r x,okR r→T≠Qvs r++x
theorem Qxc(x:Ent):Bytes (ent x):=(Qws 8 _).app (Qws 4 _)
theorem Qxd{α:Type}(f:α→List Int)(hf:∀x,Bytes (f x)):∀l:List α,Bytes (l.flatMap f)
 | []=>fun y hy=>by cases hy
 | x :: t=>by rw[List.flatMap_cons];exact(hf x).app (Qxd f hf t)
theorem Qxe(u:Int)(l:List Ent)(p:List Int):NoRec (Qoz u l++p):=by
 intro r x hr e;unfold Qoz Qvs at e;have hb:Bytes ([4]++leb (l.length:Int) 4++leb u 4++l.flatMap ent++(Qnv l).flatMap (fun x=>leb x 8)):=by
  refine Bytes.app (Bytes.app (Bytes.app (Bytes.app ?_ (Qws 4 _)) (Qws 4 _)) (Qxd _ Qxc l)) (Qxd _ (fun x=>Qws 8 x) _);intro y hy
  rcases List.mem_singleton.1 hy with rfl
  omega
 have h1:=(Qwt hb (Qxa hr) e).1;unfold Qlm at h1;simp only[List.cons_append,List.nil_append,List.append_assoc]at h1;have h2:=(List.cons.inj h1).1;split at h2<;>omega
theorem stuff_most:∀(n:Nat) (b:List Int),b.length≤n→(Qks b).length≤b.length+1+(b.length-1)/254
 | n,b,hn=>by
  rcases Int.lt_or_le (ixOf (b.take 254) 0) 0 with h0|h0
  ·by_cases hl:254<b.length
   ·rw[Qkw h0 hl]
    match n,hn with
    | 0,hn=>omega
    | n+1,hn =>
     have ih:=stuff_most n (b.drop 254) qq_24;rw[List.length_drop]at ih;rw[List.length_cons,List.length_append,List.length_take];omega
   ·rw[Qkx h0 hl,List.length_cons];omega
  ·obtain⟨p,hp⟩:=Int.eq_ofNat_of_zero_le h0;have h1:=(Qkq (b.take 254) 0).2;rw[List.length_take,hp]at h1;rw[Qkv hp]
   match n,hn with
   | 0,hn=>omega
   | n+1,hn =>
    have ih:=stuff_most n (b.drop (p+1)) qq_24;rw[List.length_drop]at ih;rw[List.length_cons,List.length_append,List.length_take];omega
theorem sealL_most(b:List Int):(Qml b).length≤b.length+8+1+(b.length+8-1)/254+1:=by
 have h:=stuff_most _ (b++leb (Qmf 0 b) 8) (Nat.le_refl _);rw[List.length_append,Qjs]at h;unfold Qml;rw[List.length_append];simp;omega
theorem fence_len(l:List Ent):(Qnv l).length=(l.length+15)/16:=by simp[Qnv,chN]
theorem foot_len(u:Int)(l:List Ent):((Qoz u l).length:Int)≤Qus (l.length:Int):=by
 have h:=sealL_most ([4]++leb l.length 4++leb u 4++l.flatMap ent++(Qnv l).flatMap (fun x=>leb x 8));have h2:=Qpe (l.length:Int) u l;rw[List.nil_append]at h2;rw[h2,fence_len]at h;unfold Qoz Qus;obtain⟨c,hc⟩:∃c,c=(l.length+15)/16:=⟨_,rfl⟩;have hcI:((l.length:Int)+15)/16=(c:Int):=by omega
 rw[hcI];rw[← hc]at h;clear hc hcI h2;obtain⟨g,hg⟩:∃g,g=(9+12*l.length+8*c+8-1)/254:=⟨_,rfl⟩;have hgI:(9+12*(l.length:Int)+8*(c:Int)+8-1)/254=(g:Int):=by omega
 rw[hgI];rw[← hg]at h;clear hg hgI;omega
theorem le_trans_E(x y z:Ent)(h1:(!(ltOf cfE) y x)=true)(h2:(!(ltOf cfE) z y)=true):(!(ltOf cfE) z x)=true:=by
 rw[Qog]at *;simp at *;omega
theorem le_total_E(x y:Ent):((!(ltOf cfE) y x) ||(!(ltOf cfE) x y))=true:=by
 rw[Qog,Qog];simp;omega
theorem sortE_pair(l:List Ent):(Qoe l).Pairwise (fun x y=>(!(ltOf cfE) y x)=true):=List.pairwise_mergeSort le_trans_E le_total_E l
theorem rising_of:∀(l:List Ent),l.Pairwise (fun x y=>(!(ltOf cfE) y x)=true)→l.Nodup→Qor l=true
 | [],_,_=>rfl
 | [_],_,_=>rfl
 | a :: b :: t,hp,hn=>by
  have hp2:=List.pairwise_cons.1 hp;have hn2:=List.pairwise_cons.1 hn;have ih:=rising_of (b :: t) hp2.2 hn2.2;have h1:=hp2.1 b (by simp);have h2:=hn2.1 b (by simp);have h3:ltOf cfE a b=true:=by
   cases h:ltOf cfE a b with
   | true=>rfl
   | false=>exact absurd (totE a b h (by simpa using h1)) h2
  unfold Qor ltE;rw[ih]
  simpa [ltOf]using h3
theorem sort_rising{l:List Ent}(h:l.Nodup):Qor (Qoe l)=true:=rising_of _ (sortE_pair l) ((Qoo l).nodup_iff.2 h)
def okB(e s n:Int)(i:Nat)(B:Bd):Prop :=
 B.1=(e,s,n,(B.2.1.length:Int),(B.2.2.length:Int))∧B.2.2.length≤i∧(∀x∈B.2.2,wfE x∧x.f1<(B.2.1.length:Int))∧B.2.2.Pairwise (fun x y=>x.f1<y.f1)∧(B.2.1.length:Int)≤16777216
def putB(e s n:Int)(B:Bd)(r:Rec):Bd :=
 ((e,s,n,((B.2.1++Qvs r).length:Int),((B.2.2.length+1:Nat):Int)),B.2.1++Qvs r,B.2.2++[⟨Qmf 0 (bytesOf r.f2),(B.2.1.length:Int)%4294967296⟩])
def Qfq(e s n:Int):Bd:=((e,s,n,Quo e s n,0),Qmq e s n,[])
theorem new_good{e s:Int}(h:Good e s)(n:Int)(h0:0≤n)(h1:n<s):newB e s n=some (Qfq e s n):=by
 unfold newB;rw[Qve h n h0 h1,Option.bind_some,Qvd h n h0 h1,Option.bind_some];simp[Qfq]
theorem Qer(e s n:Int)(i:Nat):okB e s n i (Qfq e s n):=by
 have:=Quq e s n;refine⟨by simp[Qfq,Quo],by simp[Qfq],by simp[Qfq],by simp[Qfq],?_⟩;unfold Quo at this;simp only[Qfq];omega
theorem large_no{e s:Int}(h:Good e s){x:Int}(hx1:x≤1152921504606846976)(hf:Quz e (Quo e s (s-1)) 0 x=true):Qcg.f e s x=some false:=by
 have hr:=Quq e s (s-1);have hg:=h;obtain⟨g1,g2,g3,g4⟩:=hg;unfold Qcg.f;rw[show(s-1)%4294967296=s-1 by omega,Qve h (s-1) (by omega) (by omega),Option.bind_some];dsimp only;rw[if_pos rfl,Qva h _ _ _ _ (by omega) (by omega) (by omega) (by omega) hx1,hf];rfl
theorem add_good{e s n:Int}(h:Good e s){i:Nat}{B:Bd}{r:Rec}(hB:okB e s n i B)(hi:i≤1000000)(hc:chkR r=0)(hw:0≤r.f1∧r.f1<18446744073709551616)
  (hl:Quz e (Quo e s (s-1)) 0 (fsz r)=true) (hf:Quz e (B.2.1.length:Int) (B.2.2.length:Int) (fsz r)=true) :
  addB B r=some (putB e s n B r)∧okB e s n (i+1) (putB e s n B r)∧((putB e s n B r).2.1.length:Int)+Qus ((putB e s n B r).2.2.length:Int)≤szN e∧(putB e s n B r).2.2≠[]:=by
 obtain⟨b1,b2,b3,b4,b5⟩:=hB;have hx:=Qvv r hc;have hft:=Qvb hf;have hsz:=Quv h.1 h.2.1;have hm:=Quy ((B.2.2.length:Int)+1) (by omega) (by omega);have hlen:((B.2.1++Qvs r).length:Int)=(B.2.1.length:Int)+fsz r:=by rw[List.length_append];unfold fsz;omega
 have hh:=Qmk 0 (bytesOf r.f2);have hmod:(B.2.1.length:Int)%4294967296=(B.2.1.length:Int):=by omega
 refine⟨?_,⟨?_,?_,?_,?_,?_⟩,?_,?_⟩
 ·unfold addB;rw[if_pos (show chk r.f0 r.f2 r.f3=0 from hc),Qvw r hc hw.1 hw.2,Option.bind_some,b1];dsimp only;rw[show((Qvs r).length:Int)=fsz r from rfl,large_no h (by omega) hl,Option.bind_some,Qvc h n _ _ _ (by omega) (by omega) (by omega) (by omega) (by omega) hf,Option.bind_some];dsimp only;rw[if_pos ⟨rfl,rfl,rfl,by have hfz:((Qvs r).length:Int)=fsz r:=rfl;omega,by omega⟩];unfold putB;rw[hlen];simp
 ·simp[putB]
 ·simp only[putB,List.length_append,List.length_cons,List.length_nil];omega
 ·intro x hxm;simp only[putB]at hxm ⊢;rw[hlen]
  rcases List.mem_append.1 hxm with hm' | hm'
  ·have:=b3 x hm';exact⟨this.1,by omega⟩
  ·simp only[List.mem_singleton]at hm';subst hm';rw[hmod];exact⟨⟨hh,(show(0:Int)≤(B.2.1.length:Int)by omega),(show(B.2.1.length:Int)<4294967296 by omega)⟩,by dsimp only;omega⟩
 ·simp only[putB];rw[List.pairwise_append];refine⟨b4,by simp,?_⟩;intro x hx y hy;simp only[List.mem_singleton]at hy;subst hy;rw[hmod];exact(b3 x hx).2
 ·simp only[putB];rw[hlen];omega
 ·simp only[putB];rw[hlen,List.length_append];simp only[List.length_cons,List.length_nil];have:(((B.2.2.length+(0+1):Nat)):Int)=(B.2.2.length:Int)+1:=by omega
  rw[this];omega
 ·simp[putB]
theorem any_sort(u:Int){l:List Ent}(h:∀x∈l,x.f1<u):(Qoe l).any (fun x=>decide (u≤x.f1))=false:=by
 rw[List.any_eq_false];intro x hx;have:=h x ((Qoo l).mem_iff.1 hx);simp;omega
theorem pair_nodup{l:List Ent}(h:l.Pairwise (fun x y=>x.f1<y.f1)):l.Nodup:=h.imp (fun {a b} hab he=>by subst he;omega)
theorem seal_good{e s n:Int}(h:Good e s){i:Nat}{B:Bd}(hB:okB e s n i B)(hi:i≤1000000)(hne:B.2.2≠[])(hr:(B.2.1.length:Int)+Qus (B.2.2.length:Int)≤szN e) :
  ∃o,Qph B=some o∧o.length=(szN e).toNat∧B.2.1 <+: o:=by
 obtain⟨b1,b2,b3,b4,b5⟩:=hB;have hsz:=Quv h.1 h.2.1;have hu:Qpg B=(B.2.1.length:Int):=by unfold Qpg;omega
 have hfl:=foot_len (Qpg B) (Qoe B.2.2);rw[Qof]at hfl;have hn0:B.2.2.length≠0:=fun he=>hne (List.eq_nil_of_length_eq_zero he)
 have hck:Qow (Qpg B) (Qoe B.2.2)=0:=by
  unfold Qow;rw[Qof,if_neg hn0,if_neg (by omega),sort_rising (pair_nodup b4),if_neg (by simp),any_sort _ (fun x hx=>by rw[hu];exact(b3 x hx).2),if_neg (by simp)]
 unfold Qph;rw[b1];dsimp only;rw[Quw h,Option.bind_some,if_pos ⟨hn0,by omega,fun x hx=>(b3 x hx).1,hck,by omega,by omega⟩];refine⟨_,rfl,?_,?_⟩
 ·rw[List.length_append,List.length_replicate,List.length_append];omega
 ·rw[List.append_assoc];exact List.prefix_append _ _
theorem open_good{e s n:Int}(h:Good e s){i:Nat}{B:Bd}(hB:okB e s n i B)(hr:(B.2.1.length:Int)≤szN e) :
  ∃o,Qpi B=some o∧o.length=(szN e).toNat∧B.2.1 <+: o:=by
 obtain⟨b1,b2,b3,b4,b5⟩:=hB;have hsz:=Quv h.1 h.2.1;unfold Qpi;rw[b1];dsimp only;rw[Quw h,Option.bind_some,if_pos ⟨by omega,by omega⟩];refine⟨_,rfl,?_,List.prefix_append _ _⟩;rw[List.length_append,List.length_replicate];omega
theorem planP_pre(e s:Int):∀(l out:List Int) (n u c:Int),(Qvg e s l out n u c).2=0→out <+: (Qvg e s l out n u c).1
 | [],out,n,u,c,h=>by unfold Qvg;exact List.prefix_rfl
 | x :: t,out,n,u,c,h=>by
  unfold Qvg at h ⊢
  by_cases hf:Quz e (Quo e s (s-1)) 0 x=false
  ·rw[if_pos hf]at h;cases h
  ·rw[if_neg hf]at h ⊢
   by_cases hq:Quz e u c x=true
   ·rw[if_pos hq]at h ⊢;exact(List.prefix_append _ _).trans (planP_pre e s t _ _ _ _ h)
   ·rw[if_neg hq]at h ⊢
    by_cases hs:n+1<s
    ·rw[if_pos hs]at h ⊢;exact(List.prefix_append _ _).trans (planP_pre e s t _ _ _ _ h)
    ·rw[if_neg hs]at h;cases h
theorem pre_at{into:List Int}{i:Nat}{x:Int}(h:into.take i++[x] <+: into)(hi:i<into.length):rd into (i:Int)=x∧into.take (i+1)=into.take i++[x]:=by
 obtain⟨t,ht⟩:=h;have h1:=congrArg (fun l=>l[i]?) ht;have h2:(into.take i).length=i:=by rw[List.length_take];omega
 have h3:(into.take i++[x]++t)[i]? = some x:=by
  rw[List.append_assoc,List.getElem?_append_right (by omega),h2,Nat.sub_self];rfl
 rw[h3]at h1;refine⟨?_,?_⟩
 ·rw[rd_get hi];have h4:=List.getElem?_eq_getElem hi;rw[← h1]at h4;exact(Option.some.inj h4).symm
 ·rw[List.take_add_one,← h1];rfl
theorem room_lim{e s n:Int}(h:Good e s)(h1:n<s):n.toNat*(szN e).toNat+(szN e).toNat≤lim:=by
 have hsz:=Quv h.1 h.2.1;obtain⟨g1,g2,g3,g4⟩:=h;have:(n.toNat+1)*(szN e).toNat≤65536*16777216:=Nat.mul_le_mul (by omega) (by omega);rw[Nat.add_mul,Nat.one_mul]at this;unfold lim;omega
theorem encode_bad(e s:Int)(l:List Rec)(k:Nat)(hl:l.length≤1000000)(hw:Wf l)(hk:2*l.length+10≤k)(h:(Qwa e s l).2.2≠0):Qby.f k e s l=some ([],(Qwa e s l).2.2):=by
 unfold Qby.f;rw[Qwc e s l k hl hw hk,Option.bind_some,if_neg h]
def fillB(e s n:Int):Bd→List Rec→Bd
 | B,[]=>B
 | B,r :: t=>fillB e s n (putB e s n B r) t
def tailB(B:Bd)(b:Bool):List Int:=B.2.1++(if b=true then Qoz (Qpg B) (Qoe B.2.2)else [])
end Go.Proofs.YteaocbonofboeaaGreat.CodecP
end
