/- Merged texts. -/
import Derived.Test.YteaocbonofboeaaGreatMB25
import Derived.Test.YteaocbonofboeaaGreatMB17
import Derived.Test.YteaocbonofboeaaGreatMB04
import Derived.Test.YteaocbonofboeaaGreatMB23
import Derived.Test.YteaocbonofboeaaGreatMB22
set_option linter.unusedVariables false
set_option linter.unusedSimpArgs false
set_option maxHeartbeats 8000000
set_option maxRecDepth 100000
section
namespace Go.Proofs.YteaocbonofboeaaGreat.CodecP
open Go.RowKit Go.Proofs.YteaocbonofboeaaGreat.C Go.Proofs.YteaocbonofboeaaGreatW.PrintWords Go.Proofs.YteaocbonofboeaaGreatW.PrintLast Go.Proofs.YteaocbonofboeaaGreatW.PrintMore
theorem rdR(l:List Rec)(i:Nat)(h:i<l.length):Qjh l (i:Int)=l[i]:=by simp[Qjh,List.getElem?_eq_getElem h]
def chkR(r:Rec):Int:=chk r.f0 r.f2 r.f3
def chkL:List Rec→Int
 | []=>0
 | r :: t=>if chkR r=0 then chkL t else chkR r
def ordL:List Rec→Int
 | []=>0
 | [_]=>0
 | a :: b :: t=>if b.f1≤a.f1 then 8 else ordL (b :: t)
def risL(l:List Rec):Int:=if chkL l=0 then ordL l else chkL l
theorem Qvz{l:List Rec}(h:chkL l=0):∀r∈l,chkR r=0:=by
 induction l with
 | nil=>intro r hr;cases hr
 | cons a t ih =>
  unfold chkL at h
  by_cases ha:chkR a=0
  ·rw[if_pos ha]at h;intro r hr
   rcases List.mem_cons.1 hr with rfl|hr
   ·exact ha
   ·exact ih h r hr
  ·rw[if_neg ha]at h;exact absurd h ha
theorem check_k(k:Nat)(d:Bool)(s:Int)(key v:ByteArray)(hk:1≤k):Qcn.f k d s key v=some (chk d key v) :=
 Qdp (g:=fun k=>Qcn.f k d s key v) (Qcn.mono d s key v) hk (Qlw d s key v)
theorem Qwa{l:List Rec}{i:Nat}(h:i+1<l.length):ordL (l.drop i)=if l[i+1].f1≤l[i].f1 then 8 else ordL (l.drop (i+1)):=by
 rw[List.drop_eq_getElem_cons (by omega),List.drop_eq_getElem_cons h];rfl
theorem Qwb{l:List Rec}(h:l.length≤1):ordL l=0:=by
 match l,h with
 | [],_=>rfl
 | [_],_=>rfl
theorem Qwc(l:List Rec)(hl:l.length≤4611686018427387903):∀(d i k:Nat),i+d=l.length→d+1≤k→Qcp.l1 k l ((i+1:Nat):Int)=some (ordL (l.drop i))
 | 0,i,k,h,hk=>by
  obtain⟨k,rfl⟩:∃m,k=m+1:=⟨k-1,by omega⟩;unfold Qcp.l1;rw[if_neg (by omega),Qwb qq_31]
 | d+1,i,k,h,hk=>by
  obtain⟨k,rfl⟩:∃m,k=m+1:=⟨k-1,by omega⟩;unfold Qcp.l1
  by_cases hi:i+1<l.length
  ·have w1:=Qup (i+1) (by omega) (by omega);rw[Nat.add_sub_cancel]at w1;rw[if_pos (by omega),if_pos (by omega),w1,if_pos (by omega),if_pos (by omega),rdR l (i+1) hi,rdR l i (by omega),Qwa hi]
   by_cases ho:l[i+1].f1≤l[i].f1
   ·rw[if_pos ho,if_pos ho]
   ·rw[if_neg ho,if_neg ho,Quo (i+1) (by omega)];exact Qwc l hl d (i+1) k (by omega) (by omega)
  ·rw[if_neg (by omega),Qwb qq_31]
theorem Qwd(l:List Rec)(hl:l.length≤4611686018427387903):∀(d i k:Nat),i+d=l.length→d+l.length+5≤k→Qcp.l0 k l l (l.length:Int) (i:Int)=some (if chkL (l.drop i)=0 then ordL l else chkL (l.drop i))
 | 0,i,k,h,hk=>by
  obtain⟨k,rfl⟩:∃m,k=m+1:=⟨k-1,by omega⟩;unfold Qcp.l0;rw[if_neg (by omega),List.drop_of_length_le (by omega)];exact Qwc l hl l.length 0 k (by omega) (by omega)
 | d+1,i,k,h,hk=>by
  obtain⟨k,rfl⟩:∃m,k=m+1:=⟨k-1,by omega⟩;have hi:i<l.length:=by omega
  unfold Qcp.l0;rw[if_pos (by omega),if_pos (by omega),if_pos (by omega),rdR l i hi,check_k k _ _ _ _ (by omega),Option.bind_some,List.drop_eq_getElem_cons hi];unfold chkL
  by_cases hc:chkR l[i]=0
  ·rw[if_pos hc,if_pos (show chk l[i].f0 l[i].f2 l[i].f3=0 from hc),Quo i (by omega)];exact Qwd l hl d (i+1) k (by omega) (by omega)
  ·rw[if_neg hc,if_neg (show ¬chk l[i].f0 l[i].f2 l[i].f3=0 from hc),if_neg hc];rfl
theorem Qwe(l:List Rec)(k:Nat)(hl:l.length≤4611686018427387903)(hk:2*l.length+5≤k):Qcp.f k l=some (risL l) :=
 Qwd l hl l.length 0 k (by omega) (by omega)
def Qwf(r:Rec):List Int:=Qmx (Qly r.f0 r.f1 r.f2 r.f3)
def fsz(r:Rec):Int:=((Qwf r).length:Int)
def Wf(l:List Rec):Prop:=∀r∈l,0≤r.f1∧r.f1<18446744073709551616
theorem Qwg(d:Bool)(s:Int)(key v:ByteArray):(Qly d s key v).length≤key.size+v.size+31:=by
 have h1:=Qlm 9 s;have h2:=Qlm 9 (key.size:Int);have h3:=Qlm 9 (v.size:Int);have h4:=Qdj key;have h5:=Qdj v
 cases d
 ·simp only[Qly,List.length_append,List.length_cons,List.length_nil,Bool.false_eq_true,if_false];omega
 ·simp only[Qly,List.length_append,List.length_cons,List.length_nil,if_true];omega
theorem Qwh(b:List Int):0<(Qmx b).length∧(Qmx b).length≤2*b.length+18:=by
 have h:=Qmy _ (b++leb (Qmr 0 b) 8) (Nat.le_refl _);rw[List.length_append,Qke]at h;unfold Qmx;rw[List.length_append];simp;omega
theorem Qwi(r:Rec)(hc:chkR r=0):1≤fsz r∧fsz r≤8388608:=by
 have h1:=Qlx hc;have h2:=Qwg r.f0 r.f1 r.f2 r.f3;have h3:=Qwh (Qly r.f0 r.f1 r.f2 r.f3);unfold fsz Qwf;omega
theorem Qwj(r:Rec)(hc:chkR r=0)(h0:0≤r.f1)(h1:r.f1<18446744073709551616):Qby.f r.f0 r.f1 r.f2 r.f3=some (Qwf r,0):=by
 have h2:=Qlx hc;have h3:=Qwg r.f0 r.f1 r.f2 r.f3;unfold Qby.f Qcm.f;rw[if_pos h0,if_pos h1,if_pos (show chk r.f0 r.f2 r.f3=0 from hc),Option.bind_some,if_pos rfl];unfold Qbz.f;rw[if_pos (by dsimp only;omega),Option.bind_some];rfl
def Qwk(e s:Int)(l:List Rec):List Int × Int:=Qvt e s (l.map fsz) [] 0 (Qvb e s 0) 0
theorem Qwl{l:List Rec}{i:Nat}(h:i<l.length):(l.take (i+1)).map fsz=(l.take i).map fsz++[fsz l[i]]:=by rw[List.take_succ_eq_append_getElem h,List.map_append];rfl
theorem Qwm{e s:Int}(h:Good e s)(l:List Rec)(hl:l.length≤1000000)(hw:Wf l)(hc:chkL l=0):∀(d i k:Nat),i+d=l.length→d+l.length+5≤k →
  Qcf.l0 k ((l.take i).map fsz) l (l.length:Int) (i:Int) e s=some ((Qwk e s l).1,l.map fsz,(Qwk e s l).2)
 | 0,i,k,hi,hk=>by
  obtain⟨k,rfl⟩:∃m,k=m+1:=⟨k-1,by omega⟩;unfold Qcf.l0;rw[if_neg (by omega),List.take_of_length_le (by omega),Qvy h (l.map fsz) k (by rw[List.length_map];exact hl) (fun x hx=>by
   obtain⟨r,hr,rfl⟩:=List.mem_map.1 hx;have:=Qwi r (Qvz hc r hr);omega) (by rw[List.length_map];omega),Option.bind_some]
  rfl
 | d+1,i,k,hi,hk=>by
  obtain⟨k,rfl⟩:∃m,k=m+1:=⟨k-1,by omega⟩;have hil:i<l.length:=by omega
  have hr:=List.getElem_mem hil;have hln:((l.take i).map fsz).length=i:=by rw[List.length_map,List.length_take];omega
  unfold Qcf.l0;rw[if_pos (by omega),if_pos (by omega),if_pos (by omega),rdR l i hil,Qwj l[i] (Qvz hc _ hr) (hw _ hr).1 (hw _ hr).2,Option.bind_some,if_pos (by omega),Quo i (by omega)];have:=Qwm h l hl hw hc d (i+1) k (by omega) (by omega);rw[Qwl hil]at this;exact this
def Qwn(e s:Int)(l:List Rec):List Int × List Int × Int:=if 12≤e∧e≤24∧1≤s∧s≤65536 then if risL l=0 then((Qwk e s l).1,l.map fsz,(Qwk e s l).2)else([],[],risL l)else([],[],1)
theorem Qwo{l:List Rec}(h:risL l=0):chkL l=0:=by
 unfold risL at h
 by_cases hc:chkL l=0
 ·exact hc
 ·rw[if_neg hc]at h;exact h
theorem Qwp(e s:Int)(l:List Rec)(k:Nat)(hl:l.length≤1000000)(hw:Wf l)(hk:2*l.length+10≤k):Qcf.f k e s l=some (Qwn e s l):=by
 unfold Qcf.f Qwn
 by_cases hg:12≤e∧e≤24∧1≤s∧s≤65536
 ·rw[Qvg hg,Option.bind_some,if_pos rfl,if_pos hg,Qwe l k (by omega) (by omega),Option.bind_some]
  by_cases hr:risL l=0
  ·rw[if_pos hr,if_pos hr];exact Qwm hg l hl hw (Qwo hr) l.length 0 k (by omega) (by omega)
  ·rw[if_neg hr,if_neg hr]
 ·rw[Qvh hg,Option.bind_some,if_neg (by decide),if_neg hg]
theorem Qwq(e s:Int):∀(l out:List Int) (n u c:Int),0≤n→n<s→(∀x∈out,0≤x∧x<s)→(Qvt e s l out n u c).2=0 →
  (Qvt e s l out n u c).1.length=out.length+l.length∧∀x∈(Qvt e s l out n u c).1,0≤x∧x<s
 | [],out,n,u,c,h0,h1,ho,h=>⟨by simp[Qvt],ho⟩
 | x :: t,out,n,u,c,h0,h1,ho,h=>by
  unfold Qvt at h ⊢
  by_cases hf:Qvm e (Qvb e s (s-1)) 0 x=false
  ·rw[if_pos hf]at h;cases h
  ·rw [if_neg hf]at h ⊢
   by_cases hq:Qvm e u c x=true
   ·rw[if_pos hq]at h ⊢;have:=Qwq e s t (out++[n]) n (u+x) (c+1) h0 h1 (fun y hy=>by
     rcases List.mem_append.1 hy with hy|hy
     ·exact ho y hy
     ·simp at hy;omega) h
    refine⟨?_,this.2⟩;rw[this.1,List.length_append,List.length_cons];simp;omega
   ·rw[if_neg hq]at h ⊢
    by_cases hs:n+1<s
    ·rw[if_pos hs]at h ⊢;have:=Qwq e s t (out++[n+1]) (n+1) (Qvb e s (n+1)+x) 1 (by omega) hs (fun y hy=>by
      rcases List.mem_append.1 hy with hy|hy
      ·exact ho y hy
      ·simp at hy;omega) h
     refine⟨?_,this.2⟩;rw[this.1,List.length_append,List.length_cons];simp;omega
    ·rw[if_neg hs]at h;cases h
abbrev Plc:=S76
def Qwr(e s:Int):Option Int→Int→List Int→List Int→List Plc
 | prev,at_,x :: into,z :: sizes =>
  (⟨x,(if prev=some x then at_ else Qvb e s x)%4294967296⟩:Plc) :: Qwr e s (some x) ((if prev=some x then at_ else Qvb e s x)+z) into sizes
 | _,_,_,_=>[]
def Qws(into:List Int)(i:Nat):Option Int:=if i=0 then none else some (rd into ((i:Int)-1))
theorem Qwt{e s:Int}(h:Good e s)(into sizes:List Int)(hl:into.length≤1000000)(hz:sizes.length=into.length)(hi:∀x∈into,0≤x∧x<s)(hx:∀x∈sizes,0≤x∧x≤8388608):∀(d i k:Nat) (out:List Plc) (at_:Int),i+d=into.length→out.length=i→0≤at_→at_≤1000+(i:Int)*8388608→d+1≤k →
  Qcd.l0 k into sizes out at_ into (into.length:Int) (i:Int) e s=some (out++Qwr e s (Qws into i) at_ (into.drop i) (sizes.drop i),0):=by
 intro d
 induction d with
 | zero =>
  intro i k out at_ hd ho h0 h1 hk;obtain⟨k,rfl⟩:∃m,k=m+1:=⟨k-1,by omega⟩;unfold Qcd.l0;rw[if_neg (by omega),List.drop_of_length_le (by omega)];simp[Qwr]
 | succ d ihd =>
  intro i k out at_ hd ho h0 h1 hk;obtain⟨k,rfl⟩:∃m,k=m+1:=⟨k-1,by omega⟩;have hil:i<into.length:=by omega
  have hxi:0≤rd into (i:Int)∧rd into (i:Int)<s:=by rw[rd_get hil];exact hi _ (List.getElem_mem hil)
  have hzi:0≤rd sizes (i:Int)∧rd sizes (i:Int)≤8388608:=by rw[rd_get (by omega)];exact hx _ (List.getElem_mem (by omega))
  have hH:=Qvd e s (rd into (i:Int));have hprev:Qws into (i+1)=some (rd into (i:Int)):=by
   unfold Qws;rw[if_neg (by omega),show(((i+1:Nat):Int)-1)=(i:Int)by omega]
  rw[Qvv hil,Qvv (l:=sizes) (by omega)];unfold Qcd.l0;rw[if_pos (by omega),if_pos (by omega),if_pos (by omega),Quo i (by omega)]
  by_cases hz0:i=0
  ·have hz1:((i:Nat):Int)=0:=by omega
   rw[if_pos hz1,Qvr h _ hxi.1 hxi.2,Option.bind_some,if_pos (by omega),if_pos (by omega),show wrap64 (Qvb e s (rd into (i:Int))+rd sizes (i:Int))=Qvb e s (rd into (i:Int))+rd sizes (i:Int)by unfold wrap64;omega];have ih:=ihd (i+1) k (out++[⟨rd into (i:Int),Qvb e s (rd into (i:Int))%4294967296⟩]) (Qvb e s (rd into (i:Int))+rd sizes (i:Int)) (by omega) (by rw[List.length_append,ho];rfl) (by omega) (by omega) (by omega);rw[ih,hprev];have hp0:Qws into i=none:=by unfold Qws;rw[if_pos hz0]
   rw[hp0];simp[Qwr]
  ·have hp0:Qws into i=some (rd into ((i:Int)-1)):=by unfold Qws;rw[if_neg hz0]
   rw[if_neg (by omega),Qup i (by omega) (by omega),if_pos (by omega),if_pos (by omega),show((i-1:Nat):Int)=(i:Int)-1 by omega]
   by_cases he:rd into (i:Int)=rd into ((i:Int)-1)
   ·rw[if_pos he,if_pos (by omega),if_pos (by omega),show wrap64 (at_+rd sizes (i:Int))=at_+rd sizes (i:Int)by unfold wrap64;omega];have ih:=ihd (i+1) k (out++[⟨rd into (i:Int),at_%4294967296⟩]) (at_+rd sizes (i:Int)) (by omega) (by rw[List.length_append,ho];rfl) (by omega) (by omega) (by omega);rw[ih,hprev,hp0,← he];simp[Qwr]
   ·rw[if_neg he,Qvr h _ hxi.1 hxi.2,Option.bind_some,if_pos (by omega),if_pos (by omega),show wrap64 (Qvb e s (rd into (i:Int))+rd sizes (i:Int))=Qvb e s (rd into (i:Int))+rd sizes (i:Int)by unfold wrap64;omega];have ih:=ihd (i+1) k (out++[⟨rd into (i:Int),Qvb e s (rd into (i:Int))%4294967296⟩]) (Qvb e s (rd into (i:Int))+rd sizes (i:Int)) (by omega) (by rw[List.length_append,ho];rfl) (by omega) (by omega) (by omega);rw[ih,hprev,hp0];have hne:¬(some (rd into ((i:Int)-1))=some (rd into (i:Int))):=fun e'=>he (Option.some.inj e').symm
    simp[Qwr,hne]
theorem Qwu{e s:Int}{l:List Rec}(h:(Qwn e s l).2.2=0)(hl:l.length≤1000000) :
  Good e s∧risL l=0∧(Qwk e s l).2=0∧Qwn e s l=((Qwk e s l).1,l.map fsz,0)∧(Qwk e s l).1.length=l.length∧∀x∈(Qwk e s l).1,0≤x∧x<s:=by
 unfold Qwn at h ⊢
 by_cases hg:12≤e∧e≤24∧1≤s∧s≤65536
 ·rw[if_pos hg]at h ⊢
  by_cases hr:risL l=0
  ·rw[if_pos hr]at h ⊢;have h2:(Qwk e s l).2=0:=h;have:=Qwq e s (l.map fsz) [] 0 (Qvb e s 0) 0 (by omega) (by omega) (by simp) h2;refine⟨hg,hr,h2,by rw[h2],?_,this.2⟩;have h3:(Qwk e s l).1.length=_:=this.1;rw[h3,List.length_map];simp
  ·rw[if_neg hr]at h;exact absurd h hr
 ·rw[if_neg hg]at h;cases h
theorem Qwv(e s:Int)(l:List Rec)(k:Nat)(hl:l.length≤1000000)(hw:Wf l)(hk:2*l.length+10≤k) :
  Qcd.f k e s l=some (if(Qwn e s l).2.2=0 then Qwr e s none 0 (Qwk e s l).1 (l.map fsz)else [],(Qwn e s l).2.2):=by
 unfold Qcd.f;rw[Qwp e s l k hl hw hk,Option.bind_some]
 by_cases h:(Qwn e s l).2.2=0
 ·obtain⟨hg,hr,h2,h3,h4,h5⟩:=Qwu h hl;rw[if_pos h,if_pos h,h,h3];have:=Qwt hg (Qwk e s l).1 (l.map fsz) (by omega) (by rw[List.length_map,h4]) h5 (fun x hx=>by
   obtain⟨r,hr',rfl⟩:=List.mem_map.1 hx;have:=Qwi r (Qvz (Qwo hr) r hr');omega) (Qwk e s l).1.length 0 k [] 0 (by omega) rfl (by omega) (by omega) (by omega)
  exact this
 ·rw[if_neg h,if_neg h]
def Qww(into:List Int):Int:=if into.length=0 then 0 else(rd into ((into.length:Int)-1)+1)%4294967296
theorem segs_is(e s:Int)(l:List Rec)(k:Nat)(hl:l.length≤1000000)(hw:Wf l)(hk:2*l.length+10≤k) :
  Qce.f k e s l=some (if(Qwn e s l).2.2=0 then Qww (Qwk e s l).1 else 0,(Qwn e s l).2.2):=by
 unfold Qce.f;rw[Qwp e s l k hl hw hk,Option.bind_some]
 by_cases h:(Qwn e s l).2.2=0
 ·obtain⟨hg,hr,h2,h3,h4,h5⟩:=Qwu h hl;rw[if_pos h,if_pos h,h,h3];dsimp only;unfold Qww
  by_cases h0:(Qwk e s l).1.length=0
  ·rw[if_pos (by omega),if_pos h0]
  ·have hwl:wrap64 (((Qwk e s l).1.length:Int)-1)=((Qwk e s l).1.length:Int)-1:=by unfold wrap64;omega
   rw[if_neg (by omega),if_neg h0,hwl,if_pos (by omega),if_pos (by omega)]
 ·rw[if_neg h,if_neg h]
def few(l:List Rec)(m b:Int):Bool:=l.all (fun r=>decide ((r.f2.size:Int)≤b) && decide ((r.f3.size:Int)≤b)) && decide ((l.length:Int)≤m)
theorem Qwx(l:List Rec)(m b:Int)(hl:l.length≤4611686018427387903):∀(d i k:Nat),i+d=l.length→d+1≤k→Qaw.l0 k l m b l (l.length:Int) (i:Int)=some ((l.drop i).all (fun r=>decide ((r.f2.size:Int)≤b) && decide ((r.f3.size:Int)≤b)) && decide ((l.length:Int)≤m))
 | 0,i,k,h,hk=>by
  obtain⟨k,rfl⟩:∃m,k=m+1:=⟨k-1,by omega⟩;unfold Qaw.l0;rw[if_neg (by omega),List.drop_of_length_le (by omega)];simp
 | d+1,i,k,h,hk=>by
  obtain⟨k,rfl⟩:∃m,k=m+1:=⟨k-1,by omega⟩;have hi:i<l.length:=by omega
  unfold Qaw.l0;rw[if_pos (by omega),if_pos (by omega),if_pos (by omega),rdR l i hi,List.drop_eq_getElem_cons hi,Quo i (by omega),Qwx l m b hl d (i+1) k (by omega) (by omega)];rw[List.all_cons];generalize (l.drop (i+1)).all (fun r=>decide ((r.f2.size:Int)≤b) && decide ((r.f3.size:Int)≤b))=q;generalize l[i]=r
  by_cases h1:(r.f2.size:Int) > b
  ·rw[if_pos h1];simp[show ¬((r.f2.size:Int)≤b)by omega]
  ·rw[if_neg h1]
   by_cases h2:(r.f3.size:Int) > b
   ·rw[if_pos h2];simp[show ¬((r.f3.size:Int)≤b)by omega]
   ·rw[if_neg h2];simp[show((r.f2.size:Int)≤b)by omega,show((r.f3.size:Int)≤b)by omega]
theorem few_is(l:List Rec)(m b:Int)(k:Nat)(hl:l.length≤4611686018427387903)(hk:l.length+1≤k):Qaw.f k l m b=some (few l m b):=Qwx l m b hl l.length 0 k (by omega) (by omega)
theorem few_len{l:List Rec}{m b:Int}(h:few l m b=true):(l.length:Int)≤m∧∀r∈l,(r.f2.size:Int)≤b∧(r.f3.size:Int)≤b:=by
 unfold few at h;simp only[Bool.and_eq_true,List.all_eq_true,decide_eq_true_eq]at h;exact⟨h.2,fun r hr=>h.1 r hr⟩
theorem Bytes.app{a b:List Int}(h1:Bytes a)(h2:Bytes b):Bytes (a++b):=fun x hx=>(List.mem_append.1 hx).elim (h1 x) (h2 x)
theorem Bytes.left{a b:List Int}(h:Bytes (a++b)):Bytes a:=fun x hx=>h x (List.mem_append_left _ hx)
theorem Bytes.right{a b:List Int}(h:Bytes (a++b)):Bytes b:=fun x hx=>h x (List.mem_append_right _ hx)
theorem Bytes.cons{a:Int}{b:List Int}(h1:0≤a∧a<256)(h2:Bytes b):Bytes (a :: b):=fun x hx=>by
 rcases List.mem_cons.1 hx with rfl|hx
 ·exact h1
 ·exact h2 x hx
theorem Bytes.tail{a:Int}{b:List Int}(h:Bytes (a :: b)):Bytes b:=fun x hx=>h x (List.mem_cons_of_mem _ hx)
theorem Free.app{a b:List Int}(h1:Free a)(h2:Free b):Free (a++b):=fun x hx=>(List.mem_append.1 hx).elim (h1 x) (h2 x)
theorem Free.cons{a:Int}{b:List Int}(h1:a≠0)(h2:Free b):Free (a :: b):=fun x hx=>by
 rcases List.mem_cons.1 hx with rfl|hx
 ·exact h1
 ·exact h2 x hx
theorem Qwy:∀l:List Int,Free l∨∃a b,l=a++0 :: b∧Free a
 | []=>.inl (fun x hx=>by cases hx)
 | c :: l=>by
  by_cases hc:c=0
  ·exact .inr ⟨[],l,by rw[hc];rfl,fun x hx=>by cases hx⟩
  ·rcases Qwy l with h |⟨a,b,rfl,h⟩
   ·exact .inl (h.cons hc)
   ·exact .inr ⟨c :: a,b,rfl,h.cons hc⟩
theorem Qwz{b:List Int}(hb:Bytes b) :
  (∃a r,b=a++0 :: r∧Free a∧a.length<254∧Qle b=((a.length:Int)+1) :: (a++Qle r)) ∨
  (∃a r,b=a++r∧Free a∧a.length=254∧r≠[]∧Qle b=255 :: (a++Qle r)) ∨
  (Free b∧b.length≤254∧Qle b=((b.length:Int)+1) :: b):=by
 rcases Qwy b with hf |⟨a,r,rfl,hf⟩
 ·by_cases hl:b.length≤254
  ·refine .inr (.inr ⟨hf,hl,?_⟩);rw[Quk hb hf hl]
   congr 1
   omega
  ·refine .inr (.inl ⟨b.take 254,b.drop 254,(List.take_append_drop 254 b).symm,fun x hx=>hf x (List.mem_of_mem_take hx),by rw[List.length_take];omega,fun h=>by have:=congrArg List.length h;rw[List.length_drop]at this;simp at this;omega,?_⟩);have:=Qul (now:=b.take 254) (rest:=b.drop 254) (hb.take 254) (fun x hx=>hf x (List.mem_of_mem_take hx)) (by rw[List.length_take];omega) (fun h=>by have:=congrArg List.length h;rw[List.length_drop]at this;simp at this;omega);rw[List.take_append_drop]at this;exact this
 ·by_cases hl:a.length<254
  ·refine .inl ⟨a,r,rfl,hf,hl,?_⟩;rw[Quj hb.left hf hl]
   congr 1
   omega
  ·have h1:a++0 :: r=a.take 254++(a.drop 254++0 :: r):=by rw[← List.append_assoc,List.take_append_drop]
   refine .inr (.inl ⟨a.take 254,a.drop 254++0 :: r,h1,fun x hx=>hf x (List.mem_of_mem_take hx),by rw[List.length_take];omega,by simp,?_⟩);rw[h1];exact Qul (hb.left.take 254) (fun x hx=>hf x (List.mem_of_mem_take hx)) (by rw[List.length_take];omega) (by simp)
theorem Qxa:∀(n:Nat) (b:List Int),b.length≤n→Bytes b→Free (Qle b)∧Bytes (Qle b)∧Qle b≠[]
 | n,b,hn,hb=>by
  rcases Qwz hb with⟨a,r,rfl,hf,hl,e⟩ |⟨a,r,rfl,hf,hl,hr,e⟩ |⟨hf,hl,e⟩
  ·rw[List.length_append,List.length_cons]at hn
   match n,hn with
   | n+1,hn =>
    have ih:=Qxa n r (by omega) hb.right.tail;rw[e];exact⟨(hf.app ih.1).cons (by omega),(hb.left.app ih.2.1).cons (by omega),by simp⟩
  ·rw[List.length_append]at hn
   match n,hn with
   | 0,hn=>omega
   | n+1,hn =>
    have ih:=Qxa n r (by omega) hb.right;rw[e];exact⟨(hf.app ih.1).cons (by omega),(hb.left.app ih.2.1).cons (by omega),by simp⟩
  ·rw[e];exact⟨hf.cons (by omega),hb.cons (by omega),by simp⟩
def Qxb:Nat→List Int→List Int
 | 0,_=>[]
 | _,[]=>[]
 | k+1,c :: t=>t.take (c.toNat-1)++(if c<255∧t.drop (c.toNat-1)≠[]then 0 :: Qxb k (t.drop (c.toNat-1))else Qxb k (t.drop (c.toNat-1)))
theorem Qxc(k:Nat):Qxb k []=[]:=by cases k<;>rfl
theorem Qxd:∀(n:Nat) (b:List Int) (k:Nat),b.length≤n→Bytes b→b.length+1≤k→Qxb k (Qle b)=b
 | n,b,k,hn,hb,hk=>by
  obtain⟨k,rfl⟩:∃m,k=m+1:=⟨k-1,by omega⟩
  rcases Qwz hb with⟨a,r,rfl,hf,hl,e⟩ |⟨a,r,rfl,hf,hl,hr,e⟩ |⟨hf,hl,e⟩
  ·rw[List.length_append,List.length_cons]at hn hk
   match n,hn with
   | n+1,hn =>
    have ih:=Qxd n r k (by omega) hb.right.tail (by omega);have hs:=Qxa _ r (Nat.le_refl _) hb.right.tail;have hc:((a.length:Int)+1).toNat-1=a.length:=by omega
    rw[e,Qxb,hc,List.take_left' rfl,List.drop_left' rfl,if_pos ⟨by omega,hs.2.2⟩,ih]
  ·rw[List.length_append]at hn hk
   match n,hn with
   | 0,hn=>omega
   | n+1,hn =>
    have ih:=Qxd n r k (by omega) hb.right (by omega);have hc:(255:Int).toNat-1=a.length:=by omega
    rw[e,Qxb,hc,List.take_left' rfl,List.drop_left' rfl,if_neg (fun h=>by omega),ih]
  ·have hc:((b.length:Int)+1).toNat-1=b.length:=by omega
   rw[e,Qxb,hc,List.take_of_length_le (Nat.le_refl _),List.drop_of_length_le (Nat.le_refl _),if_neg (fun h=>h.2 rfl),Qxc,List.append_nil]
theorem Qxe{a b:List Int}(ha:Bytes a)(hb:Bytes b)(h:Qle a=Qle b):a=b:=by
 have h1:=Qxd _ a (a.length+b.length+1) (Nat.le_refl _) ha (by omega);have h2:=Qxd _ b (a.length+b.length+1) (Nat.le_refl _) hb (by omega);exact h1.symm.trans ((congrArg _ h).trans h2)
theorem Qxf:∀ {a b x y:List Int},Free a→Free b→a++0 :: x=b++0 :: y→a=b∧x=y
 | [],[],x,y,_,_,h=>⟨rfl,by simpa using h⟩
 | [],c :: b,x,y,_,hb,h=>by
  have h1:=List.cons.inj h;exact absurd h1.1.symm (hb c (List.mem_cons_self ..))
 | c :: a,[],x,y,ha,_,h=>by
  have h1:=List.cons.inj h;exact absurd h1.1 (ha c (List.mem_cons_self ..))
 | c :: a,d :: b,x,y,ha,hb,h=>by
  have h1:=List.cons.inj h;have ih:=Qxf (fun x hx=>ha x (List.mem_cons_of_mem _ hx)) (fun x hx=>hb x (List.mem_cons_of_mem _ hx)) h1.2;exact⟨by rw[h1.1,ih.1],ih.2⟩
theorem Qxg:∀(n:Nat) (x:Int),Bytes (leb x n)
 | 0,_=>fun y hy=>by cases hy
 | n+1,x=>(Qxg n (x/256)).cons (by omega)
theorem Qxh{a b x y:List Int}(ha:Bytes a)(hb:Bytes b)(h:Qmx a++x=Qmx b++y):a=b∧x=y:=by
 unfold Qmx at h;rw[List.append_assoc,List.append_assoc]at h;have hA:=ha.app (Qxg 8 (Qmr 0 a));have hB:=hb.app (Qxg 8 (Qmr 0 b));have h1:=Qxf (Qxa _ _ (Nat.le_refl _) hA).1 (Qxa _ _ (Nat.le_refl _) hB).1 h;have h2:=Qxe hA hB h1.1;exact⟨(List.append_inj' h2 (by rw[Qke,Qke])).1,h1.2⟩
theorem Qxi:∀(n:Nat) {x y:Int} {a b:List Int},0≤x→0≤y→vput n x++a=vput n y++b→x=y∧a=b
 | 0,x,y,a,b,_,_,h=>by
  have h1:=List.cons.inj h;exact⟨h1.1,by simpa using h1.2⟩
 | n+1,x,y,a,b,hx,hy,h=>by
  unfold vput at h
  by_cases h1:x<128
  ·by_cases h2:y<128
   ·rw[if_pos h1,if_pos h2]at h;have h3:=List.cons.inj h;exact⟨h3.1,by simpa using h3.2⟩
   ·rw[if_pos h1,if_neg h2]at h;have h3:=(List.cons.inj h).1;omega
  ·by_cases h2:y<128
   ·rw[if_neg h1,if_pos h2]at h;have h3:=(List.cons.inj h).1;omega
   ·rw[if_neg h1,if_neg h2]at h;have h3:=List.cons.inj h;have ih:=Qxi n (by omega) (by omega) h3.2;exact⟨by omega,ih.2⟩
theorem Qxj:∀(n:Nat) (x:Int),0≤x→x<256*128^n→Bytes (vput n x)
 | 0,x,h0,h1=>by
  unfold vput;intro y hy
  rcases List.mem_singleton.1 hy with rfl
  omega
 | n+1,x,h0,h1=>by
  unfold vput;split
  ·intro y hy
   rcases List.mem_singleton.1 hy with rfl
   omega
  ·refine(Qxj n (x/128) (by omega) ?_).cons (by omega);rw[Int.pow_succ]at h1;omega
theorem Qxk(x:Int)(h0:0≤x)(h1:x<18446744073709551616):Bytes (vput 9 x):=Qxj 9 x h0 (by omega)
theorem Qxl(d:Bool)(s:Int)(key v:ByteArray)(h0:0≤s)(h1:s<18446744073709551616)(hk:key.size≤4611686018427387904)(hv:v.size≤4611686018427387904):Bytes (Qly d s key v):=by
 unfold Qly;refine Bytes.app (Bytes.app (Bytes.app ?_ (Qxk s h0 h1)) ((Qxk _ (by omega) (by omega)).app (Qre key))) ?_
 ·intro y hy
  rcases List.mem_singleton.1 hy with rfl
  split<;>omega
 ·split
  ·intro y hy;cases hy
  ·exact(Qxk _ (by omega) (by omega)).app (Qre v)
theorem Qxm{key v:ByteArray}(h:chk true key v=0):v=ByteArray.empty:=by
 unfold chk at h;split at h
 ·cases h
 split at h
 ·cases h
 split at h
 ·cases h
 ·rename_i h3;have h4:v.toList=[]:=by simpa using h3
  have h5:=(Qun v).1 h4;refine Qud (List.eq_nil_of_length_eq_zero ?_);rw[Qdj];exact h5
theorem Qxn{d d':Bool}{s s':Int}{key key' v v':ByteArray}(h0:0≤s)(h0':0≤s')(hc:chk d key v=0)(hc':chk d' key' v'=0)(h:Qly d s key v=Qly d' s' key' v') :
  d=d'∧s=s'∧key=key'∧v=v':=by
 unfold Qly at h;have hz:∀(q:Bool) (a b c:List Int),[if q=true then(3:Int)else 2]++a++b++c=(if q=true then(3:Int)else 2) :: (a++(b++c)):=fun q a b c=>by simp
 rw[hz,hz]at h;have h1:=List.cons.inj h;have hd:d=d':=by
  cases d<;>cases d' <;> first|rfl |(have:=h1.1;simp at this)
 subst hd;have h2:=Qxi 9 h0 h0' h1.2;have h3:=h2.2;rw[List.append_assoc,List.append_assoc]at h3;have h4:=Qxi 9 (by omega) (by omega) h3;have hks:(bytesOf key).length=(bytesOf key').length:=by rw[Qdj,Qdj];omega
 have h5:=List.append_inj h4.2 hks;refine⟨rfl,h2.1,Qud h5.1,?_⟩
 cases d with
 | true=>rw[Qxm hc,Qxm hc']
 | false =>
  have h6:=h5.2;simp only[Bool.false_eq_true,if_false]at h6;exact Qud (Qxi 9 (by omega) (by omega) h6).2
def okR(r:Rec):Prop:=chkR r=0∧0≤r.f1∧r.f1<18446744073709551616
theorem Qxo{r:Rec}(h:okR r):Bytes (Qly r.f0 r.f1 r.f2 r.f3):=by
 have:=Qlx h.1;exact Qxl _ _ _ _ h.2.1 h.2.2 (by omega) (by omega)
theorem Qxp{r r':Rec}{x y:List Int}(h:okR r)(h':okR r')(e:Qwf r++x=Qwf r'++y):r=r'∧x=y:=by
 have h1:=Qxh (Qxo h) (Qxo h') e;have h2:=Qxn h.2.1 h'.2.1 h.1 h'.1 h1.1;refine⟨?_,h1.2⟩
 cases r;cases r'
 obtain⟨a,b,c,d⟩:=h2;simp only at a b c d;rw[a,b,c,d]
def NoRec(T:List Int):Prop:=∀r x,okR r→T≠Qwf r++x
theorem Qxq(x:Ent):Bytes (ent x):=(Qxg 8 _).app (Qxg 4 _)
theorem Qxr{α:Type}(f:α→List Int)(hf:∀x,Bytes (f x)):∀l:List α,Bytes (l.flatMap f)
 | []=>fun y hy=>by cases hy
 | x :: t=>by rw[List.flatMap_cons];exact(hf x).app (Qxr f hf t)
theorem Qxs(u:Int)(l:List Ent)(p:List Int):NoRec (Qpm u l++p):=by
 intro r x hr e;unfold Qpm Qwf at e;have hb:Bytes ([4]++leb (l.length:Int) 4++leb u 4++l.flatMap ent++(Qoi l).flatMap (fun x=>leb x 8)):=by
  refine Bytes.app (Bytes.app (Bytes.app (Bytes.app ?_ (Qxg 4 _)) (Qxg 4 _)) (Qxr _ Qxq l)) (Qxr _ (fun x=>Qxg 8 x) _);intro y hy
  rcases List.mem_singleton.1 hy with rfl
  omega
 have h1:=(Qxh hb (Qxo hr) e).1;unfold Qly at h1;simp only[List.cons_append,List.nil_append,List.append_assoc]at h1;have h2:=(List.cons.inj h1).1;split at h2<;>omega
end Go.Proofs.YteaocbonofboeaaGreat.CodecP
end
