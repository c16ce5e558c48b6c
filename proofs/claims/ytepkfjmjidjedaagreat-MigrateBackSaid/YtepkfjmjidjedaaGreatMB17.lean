/- Merged texts. -/
import Derived.Test.YtepkfjmjidjedaaGreatMB16
import Derived.Test.YtepkfjmjidjedaaGreatMB02
import Derived.Test.YtepkfjmjidjedaaGreatMB10
import Derived.Test.YtepkfjmjidjedaaGreatMB07
import Derived.Test.YtepkfjmjidjedaaGreatMB04
import Derived.Test.YtepkfjmjidjedaaGreatMB05
import Derived.Test.YtepkfjmjidjedaaGreatMB11
import Derived.OwnWalkIn
import Derived.Sort.KeysCollected
import Derived.Maps.Own
import Derived.Maps.OwnOps
import Derived.Maps.OwnSet
import Derived.Maps.Views
import Derived.StringKeys
import Derived.Test.YtepkfjmjidjedaaGreatMB13
set_option linter.unusedVariables false
set_option linter.unusedSimpArgs false
set_option maxHeartbeats 8000000
set_option maxRecDepth 100000
section
namespace Go.Proofs.YtepkfjmjidjedaaGreat.CodecP
open Go.RowKit Go.Proofs.YtepkfjmjidjedaaGreat.C Go.Proofs.YtepkfjmjidjedaaGreatW.PrintWords Go.Proofs.YtepkfjmjidjedaaGreatW.PrintLast Go.Proofs.YtepkfjmjidjedaaGreatW.PrintMore
def Qxr(e s n:Int)(g:List Rec):Bd:=Qxo e s n (freshB e s n) g
def segB(e s n:Int)(g:List Rec)(b:Bool):List Int:=Qxp (Qxr e s n g) b++List.replicate ((szN e).toNat-(Qxp (Qxr e s n g) b).length) 255
def imgP(e s:Int):Int→List (List Rec)→List Int
 | _,[]=>[]
 | n,[g]=>segB e s n g false
 | n,g :: h :: t=>segB e s n g true++imgP e s (n+1) (h :: t)
def Qxs(into:List Int):Nat→List Rec→List Rec→List (List Rec)
 | _,[],cur=>[cur]
 | i,r :: rs,cur=>if rd into (i:Int)=rd into ((i:Int)-1)then Qxs into (i+1) rs (cur++[r])else cur :: Qxs into (i+1) rs [r]
theorem Qxt(into:List Int):∀(rs:List Rec) (i:Nat) (cur:List Rec),∃g t,Qxs into i rs cur=g :: t
 | [],i,cur=>⟨cur,[],rfl⟩
 | r :: rs,i,cur=>by
  unfold Qxs;split
  ·exact Qxt into rs (i+1) _
  ·exact⟨_,_,rfl⟩
theorem Qxu(e s n:Int):∀(g:List Rec) (B:Bd) (r:Rec),Qxo e s n B (g++[r])=putB e s n (Qxo e s n B g) r
 | [],_,_=>rfl
 | x :: g,B,r=>by
  show Qxo e s n (putB e s n B x) (g++[r])=_;rw[Qxu e s n g];rfl
theorem Qxv(e s n:Int):∀(g:List Rec) (B:Bd),(Qxo e s n B g).2.2.length=B.2.2.length+g.length
 | [],B=>by simp[Qxo]
 | x :: g,B=>by
  show(Qxo e s n (putB e s n B x) g).2.2.length=_;rw[Qxv e s n g];simp[putB];omega
def GoodG(e s n:Int)(g:List Rec):Prop:=0≤n∧n<s∧okB e s n 1000000 (Qxr e s n g)∧g≠[]∧((Qxr e s n g).2.1.length:Int)+Qvh ((Qxr e s n g).2.2.length:Int)≤szN e
def AllG(e s:Int):Int→List (List Rec)→Prop
 | _,[]=>True
 | n,g :: t=>GoodG e s n g∧AllG e s (n+1) t
def Qxw(into:List Int):Nat→Nat→Int→Prop
 | 0,i,_=>i=into.length
 | d+1,i,n=>i<into.length∧((rd into (i:Int)=n∧Qxw into d (i+1) n)∨(rd into (i:Int)=n+1∧Qxw into d (i+1) (n+1)))
theorem Qxx{B:Bd}{o:List Int}{sz:Int}(h:Qpu B=some o)(hs:Qam.f B.1.1 B.1.2.1=some sz):o=Qxp B true++List.replicate (sz.toNat-(Qxp B true).length) 255:=by
 unfold Qpu at h;rw[hs,Option.bind_some]at h;split at h
 ·cases h
  rfl
 ·cases h
theorem Qxy{B:Bd}{o:List Int}{sz:Int}(h:Qpv B=some o)(hs:Qam.f B.1.1 B.1.2.1=some sz):o=Qxp B false++List.replicate (sz.toNat-(Qxp B false).length) 255:=by
 unfold Qpv at h;rw[hs,Option.bind_some]at h;split at h
 ·cases h
  simp[Qxp]
 ·cases h
theorem Qxz{e s n:Int}{i j:Nat}{B:Bd}(h:okB e s n i B)(hij:i≤j):okB e s n j B:=⟨h.1,by have:=h.2.1;omega,h.2.2⟩
theorem part_ne{e s n:Int}{g:List Rec}:(Qxr e s n g).2.2≠[]↔g≠[]:=by
 have h:=Qxv e s n g (freshB e s n);have h0:(freshB e s n).2.2.length=0:=rfl;unfold Qxr;rw[← List.length_pos_iff,← List.length_pos_iff,h,h0];omega
theorem enc_img{e s:Int}(hG:Good e s)(l:List Rec)(into:List Int)(hl:l.length≤1000000)(hw:Wf l)(hc:chkL l=0)(hil:into.length=l.length) :
  ∀(d i:Nat) (out:List Int) (n:Int) (cur:List Rec),i+d=l.length→1≤i→okB e s n i (Qxr e s n cur)→cur≠[]→((Qxr e s n cur).2.1.length:Int)+Qvh ((Qxr e s n cur).2.2.length:Int)≤szN e→0≤n→n<s→out.length=n.toNat*(szN e).toNat→rd into ((i:Int)-1)=n →
  Qvv e s ((l.drop i).map fsz) (into.take i) n ((Qxr e s n cur).2.1.length:Int) ((Qxr e s n cur).2.2.length:Int)=(into,0) →
  encG e s into i (l.drop i) out (some (Qxr e s n cur))=some (out++imgP e s n (Qxs into i (l.drop i) cur))∧AllG e s n (Qxs into i (l.drop i) cur)∧Qxw into d i n:=by
 have hsz:=Qvk hG.1 hG.2.1;have hsize:∀ {m:Int} {i:Nat} {B:Bd},okB e s m i B→Qam.f B.1.1 B.1.2.1=some (szN e):=fun h=>by rw[h.1];exact Qvl hG
 intro d
 induction d with
 | zero =>
  intro i out n cur hd hi hB hne hr h0 h1 ho hprev hp;have hi':i=into.length:=by omega
  have hmm:=Qvn ((Qxr e s n cur).2.2.length:Int) (by omega) (by have:=hB.2.1;omega);obtain⟨o,e1,e2,t,e3⟩:=Qxk hG hB (by omega);have hlim:=Qxn hG h1;have hv:=Qxy e1 (hsize hB);rw[List.drop_of_length_le (by omega)];refine⟨?_,⟨⟨h0,h1,Qxz hB (by omega),hne,hr⟩,trivial⟩,hi'⟩;unfold encG;rw[e1,Option.bind_some,if_pos (by omega),hv];rfl
 | succ d ihd =>
  intro i out n cur hd hi hB hne hr h0 h1 ho hprev hp;have hlt:i<l.length:=by omega
  have hlt2:i<into.length:=by omega
  have hcr:chkR l[i]=0:=Qwa hc _ (List.getElem_mem hlt);have hwr:=hw l[i] (List.getElem_mem hlt);have hx:=Qwj l[i] hcr;have hlen:∀q:List Int,((q++Qwg l[i]).length:Int)=(q.length:Int)+fsz l[i]:=fun q=>by rw[List.length_append];unfold fsz;omega
  have hiB:=hB.2.1;have hb5:=hB.2.2.2.2;have hne2:(Qxr e s n cur).2.2≠[]:=part_ne.2 hne;rw[List.drop_eq_getElem_cons hlt]at hp ⊢;rw[List.map_cons]at hp;unfold Qvv at hp
  by_cases hf:Qvo e (Qvd e s (s-1)) 0 (fsz l[i])=false
  ·rw[if_pos hf]at hp;cases hp
  ·rw [if_neg hf]at hp;have hft:Qvo e (Qvd e s (s-1)) 0 (fsz l[i])=true:=by simpa using hf
   by_cases hq:Qvo e ((Qxr e s n cur).2.1.length:Int) ((Qxr e s n cur).2.2.length:Int) (fsz l[i])=true
   ·rw[if_pos hq]at hp;obtain⟨q1,q2⟩:=Qxm (by have:=Qxl e s _ _ _ _ _ (congrArg Prod.snd hp);rw[hp]at this;exact this) hlt2;obtain⟨a1,a2,a3,a4⟩:=Qxg hG hB (by omega) hcr hwr hft hq;have hpb:putB e s n (Qxr e s n cur) l[i]=Qxr e s n (cur++[l[i]]):=(Qxu e s n cur _ _).symm;have hlB:((Qxr e s n (cur++[l[i]])).2.1.length:Int)=((Qxr e s n cur).2.1.length:Int)+fsz l[i]:=by rw[← hpb];exact hlen _
    have hlT:((Qxr e s n (cur++[l[i]])).2.2.length:Int)=((Qxr e s n cur).2.2.length:Int)+1:=by rw[← hpb];simp[putB]
    rw[hpb]at a1 a2 a3;rw[← q2,← hlB,← hlT]at hp;obtain⟨f1,f2,f3⟩:=ihd (i+1) out n (cur++[l[i]]) (by omega) (by omega) a2 (by simp) a3 h0 h1 ho (by rw[show((i+1:Nat):Int)-1=(i:Int)by omega];exact q1) hp;have hps:Qxs into i (l[i] :: l.drop (i+1)) cur=Qxs into (i+1) (l.drop (i+1)) (cur++[l[i]]):=by
     rw[Qxs,if_pos (q1.trans hprev.symm)]
    rw[hps];refine⟨?_,f2,hlt2,.inl ⟨q1,f3⟩⟩;rw[encG,if_pos hlt2];rw[if_neg (by omega),if_pos (q1.trans hprev.symm),a1,Option.bind_some];exact f1
   ·rw[if_neg hq]at hp
    by_cases hs:n+1<s
    ·rw[if_pos hs]at hp;obtain⟨q1,q2⟩:=Qxm (by have:=Qxl e s _ _ _ _ _ (congrArg Prod.snd hp);rw[hp]at this;exact this) hlt2;obtain⟨o,e1,e2,t,e3⟩:=Qxj hG hB (by omega) hne2 hr;have hv:=Qxx e1 (hsize hB);have hhd:=Qvf e s (n+1);have hfit:Qvo e ((freshB e s (n+1)).2.1.length:Int) ((freshB e s (n+1)).2.2.length:Int) (fsz l[i])=true:=Qvw hG (by omega) (by omega) hft;obtain⟨a1,a2,a3,a4⟩:=Qxg hG (Qxe e s (n+1) i) (by omega) hcr hwr hft hfit;have hpb:putB e s (n+1) (freshB e s (n+1)) l[i]=Qxr e s (n+1) [l[i]]:=rfl;rw[hpb]at a1 a2 a3;have hlB:((Qxr e s (n+1) [l[i]]).2.1.length:Int)=Qvd e s (n+1)+fsz l[i]:=by rw[← hpb];exact hlen _
     have hlT:((Qxr e s (n+1) [l[i]]).2.2.length:Int)=1:=by rw[← hpb];simp[putB,freshB]
     rw[← q2,← hlB,← hlT]at hp;have hlim:=Qxn hG h1;have hoo:(out++o).length=(n+1).toNat*(szN e).toNat:=by
      rw[List.length_append,ho,e2,show(n+1).toNat=n.toNat+1 by omega,Nat.add_mul,Nat.one_mul]
     obtain⟨f1,f2,f3⟩:=ihd (i+1) (out++o) (n+1) [l[i]] (by omega) (by omega) a2 (by simp) a3 (by omega) hs hoo (by rw[show((i+1:Nat):Int)-1=(i:Int)by omega];exact q1) hp;have hps:Qxs into i (l[i] :: l.drop (i+1)) cur=cur :: Qxs into (i+1) (l.drop (i+1)) [l[i]]:=by
      rw[Qxs,if_neg (by rw[q1,hprev];omega)]
     rw[hps];refine⟨?_,⟨⟨h0,h1,Qxz hB (by omega),hne,hr⟩,f2⟩,hlt2,.inr ⟨q1,f3⟩⟩;rw[encG,if_pos hlt2];rw[if_neg (by omega),if_neg (by rw[q1,hprev];omega),e1,Option.bind_some,if_pos (by omega),q1,Qxd hG (n+1) (by omega) hs,Option.bind_some,a1,Option.bind_some];rw[f1,hv];obtain⟨g2,t2,hgt⟩:=Qxt into (l.drop (i+1)) (i+1) [l[i]];rw[hgt];show _=some (out++(segB e s n cur true++imgP e s (n+1) (g2 :: t2)));rw[List.append_assoc];rfl
    ·rw[if_neg hs]at hp;cases hp
def Qya(into:List Int):List Rec→List (List Rec)
 | []=>[]
 | r :: rs=>Qxs into 1 rs [r]
theorem Qyb{e s:Int}(hG:Good e s)(l:List Rec)(into:List Int)(hl:l.length≤1000000)(hw:Wf l)(hc:chkL l=0)(hil:into.length=l.length)
  (hp:Qvv e s (l.map fsz) [] 0 (Qvd e s 0) 0=(into,0)) :
  encG e s into 0 l [] none=some (imgP e s 0 (Qya into l))∧AllG e s 0 (Qya into l)∧(l≠[]→rd into 0=0∧Qxw into (l.length-1) 1 0):=by
 have hs0:=hG.2.2.1
 cases l with
 | nil=>exact⟨rfl,trivial,fun h=>absurd rfl h⟩
 | cons r t =>
  have hlt2:0<into.length:=by rw[hil];simp
  have hcr:chkR r=0:=Qwa hc _ (by simp);have hwr:=hw r (by simp);have hx:=Qwj r hcr;have hlen:∀q:List Int,((q++Qwg r).length:Int)=(q.length:Int)+fsz r:=fun q=>by rw[List.length_append];unfold fsz;omega
  rw[List.map_cons]at hp;unfold Qvv at hp
  by_cases hf:Qvo e (Qvd e s (s-1)) 0 (fsz r)=false
  ·rw[if_pos hf]at hp;cases hp
  ·rw[if_neg hf]at hp;have hft:Qvo e (Qvd e s (s-1)) 0 (fsz r)=true:=by simpa using hf
   have hfit0:=Qvw hG (n:=0) (by omega) (by omega) hft;rw[if_pos hfit0]at hp;obtain⟨q1,q2⟩:=Qxm (i:=0) (x:=0) (by have:=Qxl e s _ _ _ _ _ (congrArg Prod.snd hp);rw[hp]at this;exact this) hlt2;have a:rd into 0=0:=q1;have hhd:=Qvf e s 0;obtain⟨a1,a2,a3,a4⟩:=Qxg hG (Qxe e s 0 0) (by omega) hcr hwr hft hfit0;have hpb:putB e s 0 (freshB e s 0) r=Qxr e s 0 [r]:=rfl;rw[hpb]at a1 a2 a3;have hlB:((Qxr e s 0 [r]).2.1.length:Int)=Qvd e s 0+fsz r:=by rw[← hpb];exact hlen _
   have hlT:((Qxr e s 0 [r]).2.2.length:Int)=1:=by rw[← hpb];simp[putB,freshB]
   have hp':Qvv e s (((r :: t).drop 1).map fsz) (into.take 1) 0 ((Qxr e s 0 [r]).2.1.length:Int) ((Qxr e s 0 [r]).2.2.length:Int)=(into,0):=by
    rw[hlB,hlT,q2];exact hp
   obtain⟨f1,f2,f3⟩:=enc_img hG (r :: t) into hl hw hc hil t.length 1 [] 0 [r] qq_26 (by omega) a2 (by simp) a3 (by omega) (by omega) (by simp) a hp';refine⟨?_,f2,fun _=>⟨a,by simpa using f3⟩⟩;rw[encG,if_pos hlt2];rw[if_pos rfl,q1,Qxd hG 0 (by omega) (by omega),Option.bind_some,a1,Option.bind_some];exact f1
theorem Qyc(e s:Int)(l:List Rec)(k:Nat)(hl:l.length≤1000000)(hw:Wf l)(hk:2*l.length+10≤k)(h:(Qwo e s l).2.2=0) :
  Good e s∧chkL l=0∧(Qwl e s l).1.length=l.length∧Qbr.f k e s l=some (imgP e s 0 (Qya (Qwl e s l).1 l),0)∧AllG e s 0 (Qya (Qwl e s l).1 l)∧(l≠[]→rd (Qwl e s l).1 0=0∧Qxw (Qwl e s l).1 (l.length-1) 1 0):=by
 obtain⟨hg,hr,h2,h3,h4,h5⟩:=Qwr h hl;have hp:=Qyb hg l (Qwl e s l).1 hl hw (Qwp hr) h4 (by
  have:Qvv e s (l.map fsz) [] 0 (Qvd e s 0) 0=Qwl e s l:=rfl;rw[this,← h2])
 refine⟨hg,Qwp hr,h4,?_,hp.2.1,hp.2.2⟩;unfold Qbr.f;rw[plan_is e s l k hl hw hk,Option.bind_some,if_pos h,if_pos (by omega),h3,hp.1,Option.bind_some]
end Go.Proofs.YtepkfjmjidjedaaGreat.CodecP
end
section
namespace Go.Proofs.YtepkfjmjidjedaaGreat.C
open Go.RowKit Go.Proofs.YtepkfjmjidjedaaGreatW.PrintWords Go.Proofs.YtepkfjmjidjedaaGreatW.PrintLast Go.Proofs.YtepkfjmjidjedaaGreatW.PrintMore
def Qay.f(a0:Int)(a1:ByteArray):Option Int:=if 0≤a0∧a0<4294967296∧a1.size≤4611686018427387904 then some (Qmc a0 (bytesOf a1))else none
theorem Qay.calls(a0:Int)(a1:ByteArray)(r:Int)(w:World)(h:Qay.f a0 a1=some r) :
  Calls Tryz.prog 120 #[.int .u32 a0,.string a1] w fun e w'=>e=.returned (.int .u32 r)∧Below w.heap.size w w':=by
 unfold Qay.f at h;split at h
 ·rename_i hs;simp only[Option.some.injEq]at h;subst h;refine(doc_of a0 a1 w (by omega)).mono ?_;rintro e w' ⟨h1,h2⟩;rw[CodecP.doc_same a0 a1 ⟨hs.1,hs.2.1⟩ hs.2.2]at h1;exact⟨h1,h2⟩
 ·cases h
end Go.Proofs.YtepkfjmjidjedaaGreat.C
end
section
namespace Go.Proofs.YtepkfjmjidjedaaGreat.C
open Go.RowKit Go.Proofs.YtepkfjmjidjedaaGreatW.PrintWords Go.Proofs.YtepkfjmjidjedaaGreatW.PrintLast Go.Proofs.YtepkfjmjidjedaaGreatW.PrintMore
attribute [local go_sem] Qhj Qhk Qhl Qhm Qhn Qho Qhp Qhq
def Qbd.f(k:Nat)(a0_0:ByteArray)(a0_1:ByteArray):Option (ByteArray):=(Qaw.f k (IntKind.u64.wrap ((a0_0.size:Int))) 4).bind fun t319=>((Qaw.f k (IntKind.u64.wrap ((a0_1.size:Int))) 4).bind fun t320=>(if t319.size+t320.size≤9223372036854775807 then(if(t319++t320).size+a0_0.size≤9223372036854775807 then(if((t319++t320)++a0_0).size+a0_1.size≤9223372036854775807 then((Qay.f 0 (((t319++t320)++a0_0)++a0_1)).bind fun t321=>((Qaw.f k (IntKind.u64.wrap (t321)) 4).bind fun t322=>(if(((t319++t320)++a0_0)++a0_1).size+t322.size≤9223372036854775807 then(some ((((t319++t320)++a0_0)++a0_1)++t322))else(none))))else(none))else(none))else(none)))
def Qbd.T1:Bool × List (List Nat × List Nat):=(true,[([],[]),([0],[0]),([1],[1]),([2],[2]),([3],[3]),([],[]),([5],[5]),([6],[6]),([7],[7]),([8,4],[8]),([4,9],[4,9]),([],[]),([11],[11]),([10,12],[10,12]),([],[]),([14],[14]),([13,15],[13,15]),([16,9,0,1,2,3,4,5,6,7,8,9,10,11,12,13,14,15,16],[16])])
def Qbd.B1:List Nat:=[0,1,3,7,15,0,32,96,224,511,1023,0,2048,8191,0,16384,65535,131071]
theorem Qbd.tab1:rtab .any (Qhf Tryz.f65 1)=Qbd.T1:=by kernel_rfl
theorem Qbd.bits1:Qgz Qbd.T1.2 Qbd.B1=true:=by kernel_rfl
theorem Qbd.calls(k:Nat)(a:ByteArray)(c:ByteArray)(r:ByteArray)(w:World)(h:Qbd.f k a c=some r) :
  Calls Tryz.prog 65 #[.agg #[.string a,.string c]] w fun e w'=>e=.returned (.string r)∧Below w.heap.size w w':=by
 have hu134:=Tryz.underlying134;have HB:=QA (Below.refl w.heap.size w);have H:((Qaw.f k (IntKind.u64.wrap ((a.size:Int))) 4).bind fun d=>((Qaw.f k (IntKind.u64.wrap ((c.size:Int))) 4).bind fun j=>(if d.size+j.size≤9223372036854775807 then(if(d++j).size+a.size≤9223372036854775807 then(if((d++j)++a).size+c.size≤9223372036854775807 then((Qay.f 0 (((d++j)++a)++c)).bind fun q=>((Qaw.f k (IntKind.u64.wrap (q)) 4).bind fun p=>(if(((d++j)++a)++c).size+p.size≤9223372036854775807 then(some ((((d++j)++a)++c)++p))else(none))))else(none))else(none))else(none))))=some r:=h;clear h;replace H:=Option.bind_eq_some_iff.mp H;obtain⟨d,v,H⟩:=H;have A2:=QA v;clear v;replace H:=Option.bind_eq_some_iff.mp H;obtain⟨j,x,H⟩:=H;have A3:=QA x;clear x
 by_cases c4:d.size+j.size≤9223372036854775807
 ·rw [if_pos c4]at H;have O:=eq_true c4;have P:=decide_eq_true c4
  try have T:(9223372036854775807<d.size+j.size)=False:=eq_false (Nat.not_lt.2 c4)
  by_cases c5:(d++j).size+a.size≤9223372036854775807
  ·rw[if_pos c5]at H;have U:=eq_true c5;have W:=decide_eq_true c5
   try have s:(9223372036854775807<(d++j).size+a.size)=False:=eq_false (Nat.not_lt.2 c5)
   try have A:=s
   try simp only[ByteArray.size_append,(show ∀x_:UInt8,(⟨#[x_]⟩:ByteArray).size=1 from fun _=>rfl),(show ∀x_ y_:UInt8,(⟨#[x_,y_]⟩:ByteArray).size=2 from fun _ _=>rfl)]at A
   try have B:=s
   try simp only[ByteArray.size_append,ByteArray.size_extract,(show ∀x_:UInt8,(⟨#[x_]⟩:ByteArray).size=1 from fun _=>rfl),(show ∀x_ y_:UInt8,(⟨#[x_,y_]⟩:ByteArray).size=2 from fun _ _=>rfl)]at B
   by_cases c6:((d++j)++a).size+c.size≤9223372036854775807
   ·rw[if_pos c6]at H;have X:=eq_true c6;have Y:=decide_eq_true c6
    try have t:(9223372036854775807<((d++j)++a).size+c.size)=False:=eq_false (Nat.not_lt.2 c6)
    try have D:=t
    try simp only[ByteArray.size_append,(show ∀x_:UInt8,(⟨#[x_]⟩:ByteArray).size=1 from fun _=>rfl),(show ∀x_ y_:UInt8,(⟨#[x_,y_]⟩:ByteArray).size=2 from fun _ _=>rfl)]at D
    try have E:=t
    try simp only[ByteArray.size_append,ByteArray.size_extract,(show ∀x_:UInt8,(⟨#[x_]⟩:ByteArray).size=1 from fun _=>rfl),(show ∀x_ y_:UInt8,(⟨#[x_,y_]⟩:ByteArray).size=2 from fun _ _=>rfl)]at E
    replace H:=Option.bind_eq_some_iff.mp H;obtain⟨q,y,H⟩:=H;have A7:=QA y;clear y;replace H:=Option.bind_eq_some_iff.mp H;obtain⟨p,z,H⟩:=H;have A8:=QA z;clear z
    by_cases c9:(((d++j)++a)++c).size+p.size≤9223372036854775807
    ·rw[if_pos c9]at H;have Z:=eq_true c9;have aa:=decide_eq_true c9
     try have u:(9223372036854775807<(((d++j)++a)++c).size+p.size)=False:=eq_false (Nat.not_lt.2 c9)
     try have G:=u
     try simp only[ByteArray.size_append,(show ∀x_:UInt8,(⟨#[x_]⟩:ByteArray).size=1 from fun _=>rfl),(show ∀x_ y_:UInt8,(⟨#[x_,y_]⟩:ByteArray).size=2 from fun _ _=>rfl)]at G
     try have I:=u
     try simp only[ByteArray.size_append,ByteArray.size_extract,(show ∀x_:UInt8,(⟨#[x_]⟩:ByteArray).size=1 from fun _=>rfl),(show ∀x_ y_:UInt8,(⟨#[x_,y_]⟩:ByteArray).size=2 from fun _ _=>rfl)]at I
     obtain rfl:=Option.some.inj H
     go_enter Tryz.func65,Tryz.ntmps65
     try go_wp2_with (first |((with_reducible refine Qfe (N:=1) rfl ?_);refine qq_e 1 #[.string a,.string c] 134 ?_;intro l hg J hbox hb;have n_:=qn4 (Qeu qq_b hb) (hbox) (qq_s hg:w.heap.size≤l) (qq_s hg:w.heap.size≤l);clear HB;obtain⟨HB,b,L,M⟩:=n_;clear hb hbox hg))
     have n_:=qn2 (Qdw b.out) (Qfb HB.out);clear b HB;obtain⟨b,HB⟩:=n_;refine Qfp (n:=18) (S:=fun w'=>w'.cell? ⟨l,0,none⟩=some (.string a)∧w'.cell? ⟨l,1,none⟩=some (.string c)) (ds:=[]) (bm 18 0) qq_6 rfl rfl ⟨(Qdl b.out 0).trans rfl,(Qdl b.out 1).trans rfl⟩ (fun m=>?_);refine Qhd Qbd.tab1 Qbd.bits1 (fun HT_ HW_=>?_);generalize J.drew=w11 at b HB m ⊢;refine pz_ (i:=0) (N:=some 4) (bm 18 1) (Qgw HT_.out qq_6) ?_;refine pz_ (i:=5) (N:=some 9) (bm 18 33) (Qgw HT_.out qq_6) ?_;refine pz_ (i:=11) (N:=some 15) (bm 18 2081) (Qgw HT_.out qq_6) ?_;refine pz_ (i:=14) (N:=some 18) (bm 18 18465) (Qgw HT_.out qq_6) ?_;refine tz_ (i:=1) (N:=some 5) (bm 18 18467) (Qhc HT_.out HW_.out qq_6) m ?_;refine pz_ (i:=2) (N:=some 6) (bm 18 18471) (Qgw HT_.out qq_6) ?_;refine pz_ (i:=3) (N:=some 7) (bm 18 18479) (Qgw HT_.out qq_6) ?_;refine tz_ (i:=6) (N:=some 10) (bm 18 18543) (Qhc HT_.out HW_.out qq_6) m ?_;refine pz_ (i:=7) (N:=some 11) (bm 18 18671) (Qgw HT_.out qq_6) ?_;refine pz_ (i:=8) (N:=some 12) (bm 18 18927) (Qgw HT_.out qq_6) ?_;refine tz_ (i:=12) (N:=some 16) (bm 18 23023) (Qhc HT_.out HW_.out qq_6) m ?_;refine tz_ (i:=15) (N:=some 19) (bm 18 55791) (Qhc HT_.out HW_.out qq_6) m ?_;refine one_ (i:=4) (N:=some 8) (bm 18 55807) rfl rfl (Qgx HT_.out qq_6) (by decide) (fun K hK=>?_);refine Qfy Tryz.func119 qq_6 rfl #[.int .u64 (IntKind.u64.wrap ((a.size:Int))),.int .i64 4] (by rfl) rfl rfl qq_2 ?_;with_reducible refine(Qaw.calls k (IntKind.u64.wrap ((a.size:Int))) 4 d _ A2.out).mono ?_
     rintro e ab ⟨rfl,hb⟩;refine⟨_,rfl,?_⟩;have n_:=qn2 (Qdy (g:=l) (o:=.cells #[.string a,.string c] 134 (0,0)) qq_0 hb) (Qeu qq_b hb);clear b HB;obtain⟨b,HB⟩:=n_
     (try clear hb)
     (try clear hb2)
     (try clear hk)
     (try clear hi)
     refine hK.out _ _ ⟨(Qdl b.out 0).trans rfl,(Qdl b.out 1).trans rfl⟩ (fun m=>?_);clear hK K;refine nzp_ 8 ?_;refine one_ (i:=9) (N:=some 13) (bm 18 56319) rfl rfl (Qgx HT_.out qq_6) (by decide) (fun K hK=>?_);refine Qfy Tryz.func119 qq_6 rfl #[.int .u64 (IntKind.u64.wrap ((c.size:Int))),.int .i64 4] (by rfl) rfl rfl qq_2 ?_;with_reducible refine(Qaw.calls k (IntKind.u64.wrap ((c.size:Int))) 4 j _ A3.out).mono ?_
     rintro e ac ⟨rfl,hb⟩;refine⟨_,rfl,?_⟩;have n_:=qn2 (Qdy (g:=l) (o:=.cells #[.string a,.string c] 134 (0,0)) qq_0 hb) (Qeu qq_b hb);clear b HB;obtain⟨b,HB⟩:=n_
     (try clear hb)
     (try clear hb2)
     (try clear hk)
     (try clear hi)
     refine hK.out _ _ ⟨(Qdl b.out 0).trans rfl,(Qdl b.out 1).trans rfl⟩ (fun m=>?_);clear hK K;refine nzp_ 13 ?_;refine pz_ (i:=10) (N:=some 14) (bm 18 57343) (Qgw HT_.out qq_6) ?_;refine pz_ (i:=13) (N:=some 17) (bm 18 65535) (Qgw HT_.out qq_6) ?_;refine pz_ (i:=16) (N:=some 20) (bm 18 131071) (Qgw HT_.out qq_6) ?_;refine pz_ (i:=17) (N:=some 3) (bm 18 262143) (Qgw HT_.out qq_6) ?_;refine Qfs (Qgy HT_.out qq_6) ?_
     try go_wp2_with (first |((with_reducible refine Qhr (f:=120) rfl ?_);refine Qfz (some 23) rfl rfl Tryz.func120 qq_6 rfl #[.int .u32 0,.string (((d++j)++a)++c)] rfl qq_2 ?_;(with_reducible refine(Qay.calls 0 (((d++j)++a)++c) q _ A7.out).mono ?_);rintro e ad ⟨rfl,hb⟩;refine⟨_,rfl,?_⟩;have n_:=qn2 (Qdy (g:=l) (o:=.cells #[.string a,.string c] 134 (0,0)) qq_0 hb) (Qeu qq_b hb);clear b HB;obtain⟨b,HB⟩:=n_;(try clear hb);(try clear hb2);(try clear hk);(try clear hi)) |((with_reducible refine Qhr (f:=119) rfl ?_);refine Qfz (some 25) rfl rfl Tryz.func119 qq_6 rfl #[.int .u64 (IntKind.u64.wrap (q)),.int .i64 4] rfl qq_2 ?_;(with_reducible refine(Qaw.calls k (IntKind.u64.wrap (q)) 4 p _ A8.out).mono ?_);rintro e ae ⟨rfl,hb⟩;refine⟨_,rfl,?_⟩;have n_:=qn2 (Qdy (g:=l) (o:=.cells #[.string a,.string c] 134 (0,0)) qq_0 hb) (Qeu qq_b hb);clear b HB;obtain⟨b,HB⟩:=n_;(try clear hb);(try clear hb2);(try clear hk);(try clear hi)))
     go_ret
     exact⟨qq_5,qq_b⟩
    ·rw[if_neg c9]at H;exact absurd H (by simp)
   ·rw[if_neg c6]at H;exact absurd H (by simp)
  ·rw[if_neg c5]at H;exact absurd H (by simp)
 ·rw[if_neg c4]at H;exact absurd H (by simp)
def Qbi.l0:Nat→ByteArray→List (S36)→Int→Int→Option (ByteArray × Int)
 | 0,_,_,_,_=>none
 | k+1,x4,x10,x11,x12=>if x12<x11 then(if 0≤x12 then(if x12<(x10.length:Int)then((Qbc.f ((Qic x10 x12).f2) ((Qic x10 x12).f3)).bind fun t329=>(if t329=0 then((Qbd.f k ((Qic x10 x12).f2) ((Qic x10 x12).f3)).bind fun t330=>(if x4.size+t330.size≤9223372036854775807 then(Qbi.l0 k (x4++t330) x10 x11 (wrap64 (x12+1)))else(none)))else(some ((⟨#[]⟩:ByteArray),t329))))else(none))else(none))else(some (x4,0))
def Qbi.f(k:Nat)(l0:List (S36)):Option (ByteArray × Int):=(Qbg.f k l0).bind fun t323=>(Qbi.l0 k (⟨#[]⟩:ByteArray) t323 (t323.length:Int) 0)
theorem Qbi.calls (k:Nat) (A0:Option Addr) (c0:Nat) (l0:List (S36)) (r1:ByteArray) (r2:Int) (w:World) (hr0:Kd.C k36 w A0 l0.length l0) (hc0:l0.length≤c0) (h:Qbi.f k l0=some (r1,r2)) :
  Calls Tryz.prog 34 #[.slice A0 l0.length c0] w fun e w'=>e=.returned (.tuple #[.string r1,.int .i64 r2])∧Below w.heap.size w w':=by
 have hu36:=Tryz.underlying36;have hu134:=Tryz.underlying134;have an:=QA hr0;have ao:=QA hc0;clear hr0 hc0;have HB:=QA (Below.refl w.heap.size w);have H:((Qbg.f k l0).bind fun b=>(Qbi.l0 k (⟨#[]⟩:ByteArray) b (b.length:Int) 0))=some (r1,r2):=h;clear h;replace H:=Option.bind_eq_some_iff.mp H;obtain⟨b,P,H⟩:=H;have A2:=QA P;clear P;have H':=QA H;clear H
 go_enter Tryz.func34,Tryz.ntmps34
 go_wp2_with (first |((with_reducible refine Qhr (f:=63) rfl ?_);refine Qfz (some 10) rfl rfl Tryz.func63 qq_6 rfl #[.slice A0 l0.length c0] rfl qq_2 ?_;(with_reducible refine(Qbg.calls k _ _ l0 b _ ?side1 ?side2 A2.out).mono ?_);(case side1=>repeat(first|exact an.out |(with_reducible refine Kd.C_alloc ?_ _) |(with_reducible refine Kd.C_drewN ?_ _) |(with_reducible refine Kd.C_drew ?_)));(case side2=>exact ao.out);rintro e w3 ⟨aF,rfl,T,hb⟩;refine⟨_,rfl,?_⟩;have n_:=qn2 (Kd.R_lower T (Qet qq_b)) (Qeu qq_b hb);clear HB;obtain⟨z,HB⟩:=n_;(try clear hb);(try clear hb2);(try clear hk);(try clear hi);(try clear T);obtain⟨Ao4,co4,eo4⟩:=Kd.R_slice z.out;subst eo4))
 go_loopg [4,12] k (fun kq v4 ap w'=>∃(u:ByteArray) (a:Int),v4=.string u∧ap=.int .i64 a∧Aside0 (Qbi.l0 kq u b (b.length:Int) a=some (r1,r2))∧Aside0 (kq≤k)∧Aside0 (Kd.R k36 36 w' w.heap.size (fun _=>True) (.slice Ao4 b.length co4) b)∧Aside0 (Below w.heap.size w w'))
 case atStart=>exact⟨((⟨#[]⟩:ByteArray)),(0),qq_7,qq_7,H',⟨Nat.le_refl _⟩,⟨by(with_reducible repeat(first|apply Kd.R_alloc|apply Kd.R_drewN|apply Kd.R_drew));exact z.out⟩,⟨qq_b⟩⟩
 case round =>
  clear H';obtain⟨u,a,rfl,rfl,HA,HK1,d,HB⟩:=hrel
  cases gk with
  | zero=>exact absurd HA.out (by simp[Qbi.l0])
  | succ k1 =>
   have H:=HA.out;clear HA;simp only[Qbi.l0]at H
   by_cases c5:a<(b.length:Int)
   ·rw [if_pos c5]at H;have W:=decide_eq_true c5;clear c5
    by_cases c6:0≤a
    ·rw [if_pos c6]at H;have aG:=decide_eq_true c6;clear c6
     by_cases c7:a<(b.length:Int)
     ·rw[if_pos c7]at H;have aH:=decide_eq_true c7;clear c7;replace H:=Option.bind_eq_some_iff.mp H;obtain⟨r,U,H⟩:=H;have A8:=QA U;clear U
      by_cases c9:r=0
      ·rw[if_pos c9]at H;have X:(r == 0)=true:=beq_iff_eq.mpr c9;have Y:(r != 0)=false:=bne_eq_false_iff_eq.mpr c9;clear c9;replace H:=Option.bind_eq_some_iff.mp H;obtain⟨v,G,H⟩:=H;have aq:=QA G;clear G
       by_cases x:u.size+v.size≤9223372036854775807
       ·rw[if_pos x]at H;have ar:=eq_true x;have au:=decide_eq_true x
        try have av:(9223372036854775807<u.size+v.size)=False:=eq_false (Nat.not_lt.2 x)
        have H':=QA H;clear H;have s:0≤(a:Int):=of_decide_eq_true qq_4;have t:a<(b.length:Int):=of_decide_eq_true qq_4;obtain⟨I,y,A,B,D,E⟩:=Qid (Kd.R_reads' d.out).2.2 a s t
        cases y
        replace s:=eq_true s;replace t:=eq_true t
        go_wp2_with (first |((with_reducible refine Qfe (N:=6) rfl ?_);refine qq_e 6 #[.bool false,.int .u64 0,.string (⟨#[]⟩:ByteArray),.string (⟨#[]⟩:ByteArray)] 36 ?_;intro c hg aI hbox hb;have n_:=qn5 (Kd.R_below (Kd.R_elderB qq_9 c (Nat.le_of_eq hg.symm)) hb) (Qeu qq_b hb) (hbox) (qq_s hg:w.heap.size≤c) (qq_s hg:w.heap.size≤c);clear d HB;obtain⟨d,HB,l,J,L⟩:=n_;clear hb hbox hg;obtain⟨Z,aa,ab,ac⟩:=qc4 l.out;have aw:=Qdm l.out) |((with_reducible refine Qfe (N:=7) rfl ?_);refine qq_e 7 #[.string (⟨#[]⟩:ByteArray),.string (⟨#[]⟩:ByteArray)] 134 ?_;intro j hg aJ hbox hb;have n_:=qn8 (Kd.R_below (by(with_reducible repeat(first|apply Kd.R_alloc|apply Kd.R_drewN|apply Kd.R_drew));exact(Kd.R_mono (Kd.R_far (p:=⟨c,3,none⟩) (Kd.R_far (p:=⟨c,2,none⟩) (Kd.R_far (p:=⟨c,1,none⟩) (Kd.R_far (p:=⟨c,0,none⟩) (Kd.R_mono d.out (fun k_ hk=>(⟨hk,hk.2⟩:_∧k_≠c))) (fun _ hk=>hk.2) (.bool ((Qic b a).f0))) (fun _ hk=>hk.2) (.int .u64 ((Qic b a).f1))) (fun _ hk=>hk.2) (.string ((Qic b a).f2))) (fun _ hk=>hk.2) (.string ((Qic b a).f3))) (fun _ h_=>h_.1))) hb) (Qdy (g:=c) (o:=.cells #[.bool ((Qic b a).f0),.int .u64 ((Qic b a).f1),.string ((Qic b a).f2),.string ((Qic b a).f3)] 36 (0,0)) qq_x hb) (Qeu qq_b hb) (hbox) (qq_s hg:w.heap.size≤j) (qq_s hg:w.heap.size≤j) ((by rw[hg];exact Nat.ne_of_lt (Qdk (g:=c) (o:=.cells #[.bool ((Qic b a).f0),.int .u64 ((Qic b a).f1),.string ((Qic b a).f2),.string ((Qic b a).f3)] 36 (0,0)) qq_x):c≠j)) ((by rw[hg];exact Nat.ne_of_gt (Qdk (g:=c) (o:=.cells #[.bool ((Qic b a).f0),.int .u64 ((Qic b a).f1),.string ((Qic b a).f2),.string ((Qic b a).f3)] 36 (0,0)) qq_x):j≠c));clear d l HB;obtain⟨d,l,HB,m,M,O,n,q⟩:=n_;clear hb hbox hg;have ax:=q.out;have ay:=n.out;obtain⟨ad,ae⟩:=qc2 m.out;have az:=Qdm m.out) |((with_reducible refine Qhr (f:=64) rfl ?_);refine Qfz (some 22) rfl rfl Tryz.func64 qq_6 rfl #[.agg #[.string ((Qic b a).f2),.string ((Qic b a).f3)]] rfl qq_2 ?_;(with_reducible refine(Qbc.calls ((Qic b a).f2) ((Qic b a).f3) r _ A8.out).mono ?_);rintro e aK ⟨rfl,hb⟩;refine⟨_,rfl,?_⟩;have n_:=qn4 (Kd.R_below (by(with_reducible repeat(first|apply Kd.R_alloc|apply Kd.R_drewN|apply Kd.R_drew));exact(Kd.R_mono (Kd.R_far (p:=⟨j,1,none⟩) (Kd.R_far (p:=⟨j,0,none⟩) (Kd.R_types d.out m.out (by decide)) (fun _ hk=>hk.2) (.string ((Qic b a).f2))) (fun _ hk=>hk.2) (.string ((Qic b a).f3))) (fun _ h_=>h_.1))) hb) (Qdy (g:=c) (o:=.cells #[.bool ((Qic b a).f0),.int .u64 ((Qic b a).f1),.string ((Qic b a).f2),.string ((Qic b a).f3)] 36 (0,0)) qq_8 hb) (Qdy (g:=j) (o:=.cells #[.string ((Qic b a).f2),.string ((Qic b a).f3)] 134 (0,0)) qq_x hb) (Qeu qq_b hb);clear d l m HB;obtain⟨d,l,m,HB⟩:=n_;(try clear hb);(try clear hb2);(try clear hk);(try clear hi);obtain⟨af,ag⟩:=qc2 m.out;have aA:=Qdm m.out) |((with_reducible refine Qhr (f:=65) rfl ?_);refine Qfz (some 28) rfl rfl Tryz.func65 qq_6 rfl #[.agg #[.string ((Qic b a).f2),.string ((Qic b a).f3)]] rfl qq_2 ?_;(with_reducible refine(Qbd.calls k1 ((Qic b a).f2) ((Qic b a).f3) v _ aq.out).mono ?_);rintro e aL ⟨rfl,hb⟩;refine⟨_,rfl,?_⟩;have n_:=qn4 (Kd.R_below qq_9 hb) (Qdy (g:=c) (o:=.cells #[.bool ((Qic b a).f0),.int .u64 ((Qic b a).f1),.string ((Qic b a).f2),.string ((Qic b a).f3)] 36 (0,0)) qq_0 hb) (Qdy (g:=j) (o:=.cells #[.string ((Qic b a).f2),.string ((Qic b a).f3)] 134 (0,0)) qq_0 hb) (Qeu qq_b hb);clear d l m HB;obtain⟨d,l,m,HB⟩:=n_;(try clear hb);(try clear hb2);(try clear hk);(try clear hi)))
        go_roundg k1
        case measure=>have:=HK1.out;omega
        case rel=>exact⟨(u++v),(wrap64 (a+1)),qq_7,qq_7,H',⟨by have:=HK1.out;omega⟩,⟨by(with_reducible repeat(first|apply Kd.R_alloc|apply Kd.R_drewN|apply Kd.R_drew));exact Kd.R_mono d.out (fun _ hk=>trivial)⟩,⟨qq_b⟩⟩
       ·rw[if_neg x]at H;exact absurd H (by simp)
      ·rw[if_neg c9]at H;have X:(r == 0)=false:=beq_eq_false_iff_ne.mpr c9;have Y:(r != 0)=true:=bne_iff_ne.mpr c9;simp only[Option.some.injEq,Prod.mk.injEq]at H;obtain⟨rfl,rfl⟩:=H;have s:0≤(a:Int):=of_decide_eq_true qq_4;have t:a<(b.length:Int):=of_decide_eq_true qq_4;obtain⟨I,y,A,B,D,E⟩:=Qid (Kd.R_reads' d.out).2.2 a s t
       cases y
       replace s:=eq_true s;replace t:=eq_true t
       go_wp2_with (first |((with_reducible refine Qfe (N:=6) rfl ?_);refine qq_e 6 #[.bool false,.int .u64 0,.string (⟨#[]⟩:ByteArray),.string (⟨#[]⟩:ByteArray)] 36 ?_;intro c hg aM hbox hb;have n_:=qn5 (Kd.R_below (Kd.R_elderB qq_9 c (Nat.le_of_eq hg.symm)) hb) (Qeu qq_b hb) (hbox) (qq_s hg:w.heap.size≤c) (qq_s hg:w.heap.size≤c);clear d HB;obtain⟨d,HB,l,J,L⟩:=n_;clear hb hbox hg;obtain⟨ah,ai,aj,ak⟩:=qc4 l.out;have aB:=Qdm l.out) |((with_reducible refine Qfe (N:=7) rfl ?_);refine qq_e 7 #[.string (⟨#[]⟩:ByteArray),.string (⟨#[]⟩:ByteArray)] 134 ?_;intro j hg aN hbox hb;have n_:=qn8 (Kd.R_below (by(with_reducible repeat(first|apply Kd.R_alloc|apply Kd.R_drewN|apply Kd.R_drew));exact(Kd.R_mono (Kd.R_far (p:=⟨c,3,none⟩) (Kd.R_far (p:=⟨c,2,none⟩) (Kd.R_far (p:=⟨c,1,none⟩) (Kd.R_far (p:=⟨c,0,none⟩) (Kd.R_mono d.out (fun k_ hk=>(⟨hk,hk.2⟩:_∧k_≠c))) (fun _ hk=>hk.2) (.bool ((Qic b a).f0))) (fun _ hk=>hk.2) (.int .u64 ((Qic b a).f1))) (fun _ hk=>hk.2) (.string ((Qic b a).f2))) (fun _ hk=>hk.2) (.string ((Qic b a).f3))) (fun _ h_=>h_.1))) hb) (Qdy (g:=c) (o:=.cells #[.bool ((Qic b a).f0),.int .u64 ((Qic b a).f1),.string ((Qic b a).f2),.string ((Qic b a).f3)] 36 (0,0)) qq_x hb) (Qeu qq_b hb) (hbox) (qq_s hg:w.heap.size≤j) (qq_s hg:w.heap.size≤j) ((by rw[hg];exact Nat.ne_of_lt (Qdk (g:=c) (o:=.cells #[.bool ((Qic b a).f0),.int .u64 ((Qic b a).f1),.string ((Qic b a).f2),.string ((Qic b a).f3)] 36 (0,0)) qq_x):c≠j)) ((by rw[hg];exact Nat.ne_of_gt (Qdk (g:=c) (o:=.cells #[.bool ((Qic b a).f0),.int .u64 ((Qic b a).f1),.string ((Qic b a).f2),.string ((Qic b a).f3)] 36 (0,0)) qq_x):j≠c));clear d l HB;obtain⟨d,l,HB,m,M,O,n,q⟩:=n_;clear hb hbox hg;have aC:=q.out;have aD:=n.out;obtain⟨al,am⟩:=qc2 m.out;have aE:=Qdm m.out) |((with_reducible refine Qhr (f:=64) rfl ?_);refine Qfz (some 22) rfl rfl Tryz.func64 qq_6 rfl #[.agg #[.string ((Qic b a).f2),.string ((Qic b a).f3)]] rfl qq_2 ?_;(with_reducible refine(Qbc.calls ((Qic b a).f2) ((Qic b a).f3) r _ A8.out).mono ?_);rintro e aO ⟨rfl,hb⟩;refine⟨_,rfl,?_⟩;have n_:=qn4 (Kd.R_below (by(with_reducible repeat(first|apply Kd.R_alloc|apply Kd.R_drewN|apply Kd.R_drew));exact(Kd.R_mono (Kd.R_far (p:=⟨j,1,none⟩) (Kd.R_far (p:=⟨j,0,none⟩) (Kd.R_types d.out m.out (by decide)) (fun _ hk=>hk.2) (.string ((Qic b a).f2))) (fun _ hk=>hk.2) (.string ((Qic b a).f3))) (fun _ h_=>h_.1))) hb) (Qdy (g:=c) (o:=.cells #[.bool ((Qic b a).f0),.int .u64 ((Qic b a).f1),.string ((Qic b a).f2),.string ((Qic b a).f3)] 36 (0,0)) qq_8 hb) (Qdy (g:=j) (o:=.cells #[.string ((Qic b a).f2),.string ((Qic b a).f3)] 134 (0,0)) qq_x hb) (Qeu qq_b hb);clear d l m HB;obtain⟨d,l,m,HB⟩:=n_;(try clear hb);(try clear hb2);(try clear hk);(try clear hi)))
       go_ret2
       exact⟨qq_5,qq_b⟩
     ·rw[if_neg c7]at H;exact absurd H (by simp)
    ·rw[if_neg c6]at H;exact absurd H (by simp)
   ·rw[if_neg c5]at H;have W:=decide_eq_false c5;clear c5;simp only[Option.some.injEq,Prod.mk.injEq]at H;obtain⟨rfl,rfl⟩:=H;go_wp2
    go_ret2
    exact⟨qq_5,qq_b⟩
end Go.Proofs.YtepkfjmjidjedaaGreat.C
end
section
namespace Go.Proofs.YtepkfjmjidjedaaGreat.C
open Go.RowKit Go.Proofs.YtepkfjmjidjedaaGreatW.PrintWords Go.Proofs.YtepkfjmjidjedaaGreatW.PrintLast Go.Proofs.YtepkfjmjidjedaaGreatW.PrintMore
open Go.Maps Go.WideMaps
theorem Qrw:Keyed Tryz.prog 9:=string_keyed Tryz.underlying9
theorem Qrx(w:World):(zeroValue 3).run Tryz.prog w=.ok (.int .i64 0) w:=by kernel_rfl
abbrev i64L{H:Type}(c:Int):DataW H:=.lit (.int .i64 c)
abbrev keyL(s:ByteArray):Lit:=.string s.data.toList
def Qry{H:Type}(l:List S36):Nat→DataW H
 | 0=>.map []
 | k+1=>(Qry l k).put (keyL (Qic l k).f2) (i64L k)
def Qrz(l:List S36)(key:ByteArray):Nat→Int
 | 0=>0
 | k+1=>if(Qic l k).f2.data.toList=key.data.toList then(k:Int)else Qrz l key k
theorem Qsa(l:List S36)(key:ByteArray):∀k,0≤Qrz l key k
 | 0=>Int.le_refl _
 | k+1=>by
  unfold Qrz;split
  ·omega
  ·exact Qsa l key k
theorem Qsb(l:List S36)(key:ByteArray):∀k:Nat,0<k→Qrz l key k<k
 | 0,h=>absurd h (by omega)
 | k+1,_=>by
  unfold Qrz;split
  ·omega
  ·rcases Nat.eq_zero_or_pos k with rfl|h
   ·simp[Qrz]
   ·have:=Qsb l key k h;omega
theorem Qsc{H:Type}(l:List S36):∀k,IsMap (Qry (H:=H) l k)
 | 0=>isMap_empty
 | k+1=>IsMap.put (Qsc l k) _ _
theorem Qsd(s:ByteArray):WideAt.IsKeyLit (keyL s):=by
 simp[WideAt.IsKeyLit]
theorem Qse{H:Type}(l:List S36)(key:ByteArray):∀k,(Qry (H:=H) l k).atKey (keyL key) (i64L 0)=i64L (Qrz l key k)
 | 0=>rfl
 | k+1=>by
  unfold Qry Qrz;split
  ·rename_i h;rw[show keyL key=keyL (Qic l k).f2 from by unfold keyL;rw[h]];exact atKey_put_same (Qsc l k) (Qsd _) _ _
  ·rename_i h;rw[atKey_put_other (by intro e;exact h (by injection e with e;exact e.symm))];exact Qse l key k
def Qsf(l:List S36):Bool:=l.all (fun x=>decide (x.f2.size≤maxLen))
theorem Qsg{l:List S36}(h:Qsf l=true){i:Int}(h0:0≤i)(h1:i<l.length):(Qic l i).f2.size≤maxLen:=by
 have hl:i.toNat<l.length:=by omega
 unfold Qic;rw[List.getD_eq_getElem?_getD,List.getElem?_eq_getElem hl];exact of_decide_eq_true (List.all_eq_true.1 h _ (List.getElem_mem hl))
theorem Qsh{H:Type}(A0:Option Addr)(c0:Nat)(l0:List S36)(w:World)(hr0:Kd.C k36 w A0 l0.length l0)(hk0:Qsf l0=true) :
  Calls Tryz.prog 115 #[.slice A0 l0.length c0] w fun e w'=>e=.returned (.map (some w.heap.size))∧w'.ownsMap Tryz.prog 9 (plainElem (H:=H) Tryz.prog 3) w.heap.size l0.length (Qry l0 l0.length)∧Below w.heap.size w w':=by
 have hmm:=@run_makeMap Tryz.prog;have hu:=Tryz.underlying36;have hlen:=hr0.2.1;have HK:=QA hk0;clear hk0
 go_enter Tryz.func115,Tryz.ntmps115
 go_wp2
 go_loopw [9] (fun i wr=>∃(k:Nat) (iv:Int),k≤l0.length∧i=.int .i64 iv∧Aside0 (iv=(k:Int))∧wr.ownsMap Tryz.prog 9 (plainElem (H:=H) Tryz.prog 3) w.heap.size k (Qry l0 k)∧Below w.heap.size w wr)
  (fun i _=>l0.length-(intOf i).toNat)
 case atStart=>exact⟨0,0,Nat.zero_le _,rfl,⟨rfl⟩,World.ownsMap_made _ _ _ _,(Below.refl _ _).alloc (Nat.le_refl _) _⟩
 case round =>
  obtain⟨k,iv,hk,rfl,HI,hown,hnx⟩:=hrel
  by_cases hlt:k<l0.length
  ·have hge:0≤iv:=by have:=HI.out;omega
   have hl2:iv<(l0.length:Int):=by have:=HI.out;omega
   have hks:=Qsg HK.out hge hl2;obtain⟨ad,rfl,c,d,b,g⟩:=Qid hr0 _ hge hl2;have keep:∀ {a:Addr} {v:Value},w.cell? a=some v→wr.cell? a=some v:=fun {a} {v} h=>(hnx.cell (World.block_lt_of_cell? w _ h)).trans h
   replace c:=keep c;replace d:=keep d;replace b:=keep b;replace g:=keep g;clear keep;obtain⟨key,hkey0⟩:∃key,key=(Qic l0 iv).f2:=⟨_,rfl⟩;rw[← hkey0]at b hks;have hkey:=keyOf_string_mk Tryz.underlying9 hks;have HKEY:=QA hkey0;clear hkey0
   go_wp2_with (first |(at_mapUpdate;refine wpList_mapUpdate_own _ rfl _ _ _ 204 rfl 9 3 Qrw Tryz.underlying204 _ w.heap.size k _ rfl (hown.alloc _) (by unfold maxLen;omega) _ _ _ rfl rfl hkey _ [] (plainElem_int Tryz.underlying3 (WalkArith.wf_i64 (by omega))) ?_;intro w1 hown1 hgrow1)|go_in)
   have R1:w1.ownsMap Tryz.prog 9 (plainElem (H:=H) Tryz.prog 3) w.heap.size (k+1) (Qry l0 (k+1)):=by
    have e:iv=(k:Int):=HI.out;have e2:=HKEY.out;rw[e2]at hown1;subst e;exact hown1
   have R2:Below w.heap.size w w1:=(hnx.alloc hnx.size _).grown hgrow1 (by simp;have:=hnx.size;omega) (fun j hj=>by cases hj;exact Nat.le_refl _);clear hown1 hgrow1 hown;go_wp2
   go_roundw
   case rel=>exact⟨k+1,iv+1,by omega,by go_num,⟨by have:=HI.out;omega⟩,R1,R2⟩
   case measure=>simp[intOf];omega
  ·obtain rfl:k=l0.length:=by omega
   obtain rfl:iv=(l0.length:Int):=HI.out;go_wp2;go_ret
   exact⟨rfl,hown,hnx⟩
theorem Qsi{H:Type}{c d:Int}(h:(i64L (H:=H) c)=i64L d):c=d:=by
 injection h with h
 injection h with _ h
end Go.Proofs.YtepkfjmjidjedaaGreat.C
end
section
namespace Go.Proofs.YtepkfjmjidjedaaGreat.C
open Go.RowKit Go.Proofs.YtepkfjmjidjedaaGreatW.PrintWords Go.Proofs.YtepkfjmjidjedaaGreatW.PrintLast Go.Proofs.YtepkfjmjidjedaaGreatW.PrintMore
open Go.Maps Go.WideMaps
open Go.Sort Go.Shelf
theorem sortsM(m:Nat):AnyZ.SortsIn Tryz.prog Tryz.sortedM_ren Fence.wide m :=
  ⟨fun blk off cap ss W hH hblk hsz=>callsIn_wide.2 (AnyM.slices_Sort_string Tryz.sortM blk off cap ss W hH hblk hsz),
   fun p cap W=>callsIn_wide.2 (AnyM.slices_Sort_string_none Tryz.sortM p cap W)⟩
theorem Qsj(mb:Option Nat)(W:World):CallsIn Fence.wide 5 Tryz.prog 127 #[.map mb] W fun e w'=>e=.returned (.func (.func 190) #[] #[.pointer (some ⟨W.heap.size,0,none⟩)])∧w'=W.alloc (.cells #[.map mb] 204) :=
 AnyZ.keys_in Tryz.keysM Fence.wide 5 trivial rfl mb W
theorem Qsk{H:Type}(b nn:Nat)(D0:DataW H)(R:Value→Option (DataW H × List MemPlace))(w:World)(hown:w.ownsMap Tryz.prog 9 R b nn D0)(hmax:Maps.size D0≤maxLen)(hbytes:Maps.size D0*16≤140737488355328) :
  CallsIn Fence.wide 5 Tryz.prog 126 #[.func (.func 190) #[] #[.pointer (some ⟨w.heap.size,0,none⟩)]] (w.alloc (.cells #[.map (some b)] 204)) fun e w'=>∃(v:Value) (ss:List (List UInt8)),e=.returned v∧ss.Perm (strKeys D0) ∧
   w'.ownsRow (w.alloc (.cells #[.map (some b)] 204)).heap.size 9 1 v ss.length ((ss.mergeSort (fun x y=>decide (x≤y))).map encStr)∧(v=.slice none 0 0↔ss=[])∧Below (w.alloc (.cells #[.map (some b)] 204)).heap.size (w.alloc (.cells #[.map (some b)] 204)) w':=by
 have hbl:=hown.lt;have hseq:SeqGives Fence.wide 2 Tryz.prog 190 #[.pointer (some ⟨w.heap.size,0,none⟩)] encStr (fun ss=>ss.Perm (strKeys D0)) (Maps.size D0) (w.alloc (.cells #[.map (some b)] 204)) :=
  AnyZ.keys_gives (ρ:=Tryz.keysM_ren) { Tryz.keysM with } Fence.wide _ trivial rfl (by omega) w.heap.size b nn D0 _ (by simp) (by simp) (by
   obtain⟨es,clock,hb,Ft,hs,hD⟩:=hown;exact⟨es,clock,(Below.heap_alloc _ _ b hbl).trans hb,Ft,hs,hD⟩)
 exact AnyZ.sorted_in Tryz.sortedM Fence.wide 5 trivial trivial trivial trivial rfl (by omega) (sortsM _) (enters_of Tryz.func189 qq_6 rfl) 190 #[.pointer (some ⟨w.heap.size,0,none⟩)] trivial (enters_of Tryz.func190 qq_6 rfl) _ _ hmax hbytes _ hseq
def Qsl(l:List S36):List ByteArray:=((strKeys (Qry (H:=Unit) l l.length)).mergeSort leB).map fun b=>⟨b.toArray⟩
theorem Qsm(D:DataW Unit):(strKeys D).length=Maps.size D:=by
 cases D<;>simp[strKeys,Maps.size]
theorem Qsn(A0:Option Addr)(c0:Nat)(l0:List S36)(w:World)(hr0:Kd.C k36 w A0 l0.length l0)(hk0:Qsf l0=true)(hl0:l0.length<2932031007402) :
  Calls Tryz.prog 68 #[.slice A0 l0.length c0] w fun e w'=>∃a:Value,e=.returned (a)∧Kd.R Kd.string 9 w' w.heap.size (fun _=>True) a (Qsl l0)∧Below w.heap.size w w'∧(Qsl l0).length≤l0.length∧∀x∈Qsl l0,x.size≤maxLen:=by
 have HK:=QA hk0;clear hk0;refine(callsIn_wide (n:=6)).1 ?_;have hfK:Fence.wide.fn 127:=trivial;have hfS:Fence.wide.fn 126:=trivial;have hfL:Fence.wide.fn 115:=trivial;refine callsIn_of_wp Tryz.func68 rfl trivial ?_ rfl;simp only[Tryz.ntmps68,List.size_toArray,List.length_cons,List.length_nil,Nat.reduceAdd,Nat.reduceSub,Array.replicate_succ,Array.replicate_zero,List.push_toArray,List.append_toArray,List.nil_append,List.cons_append]
 gi_wp2_with (gi_at_call 115;refine(callsIn_wide.2 (Qsh (H:=Unit) A0 c0 l0 w hr0 HK.out)).mono ?_;rintro e w1 ⟨rfl,hown,hb1⟩)
 have hsz:=hown.size_le
 gi_wp2_with (first
  |(gi_at_call 127;refine(Qsj _ _).mono ?_;rintro e w' ⟨rfl,rfl⟩)
  |(gi_at_call 126;refine(Qsk w.heap.size l0.length (Qry l0 l0.length) _ w1 hown (by unfold maxLen;omega) (by omega)).mono ?_;rintro e w' ⟨v,ss,rfl,hS,hrow,hnil,hb⟩))
 go_ret
 have hmS:(ss.mergeSort fun x y=>decide (x≤y))=(strKeys (Qry (H:=Unit) l0 l0.length)).mergeSort leB:=mergeSort_of_perm hS;have hlen:ss.length=(Qsl l0).length:=by simp[Qsl,hS.length_eq]
 have hrow':w'.ownsRow w.heap.size 9 1 v (Qsl l0).length (encs Value.string (Qsl l0)):=by
  have h1:=ownsRow_base_a (base':=w.heap.size) hrow (by have:=hb1.size;simp;omega);rw[hlen,hmS]at h1;have e:encs Value.string (Qsl l0)=((strKeys (Qry (H:=Unit) l0 l0.length)).mergeSort leB).map encStr:=by simp[encs,Qsl,encStr]
  rw[e];exact h1
 refine⟨v,rfl,Kd.R_of_own (h1:=fun _=>rfl) hrow' (fun _ _=>trivial),(hb1.alloc hb1.size _).trans (hb.mono (by have:=hb1.size;simp;omega)),?_,?_⟩
 ·simp only[Qsl,List.length_map,List.length_mergeSort,Qsm];exact hsz
 ·intro x hx;simp only[Qsl,List.mem_map,List.mem_mergeSort]at hx;obtain⟨b,hb2,rfl⟩:=hx;exact strKeys_le hown Tryz.underlying9 b hb2
theorem Qso{H:Type}{P:Program}{k:TypeId}{R:Value→Option (DataW H × List MemPlace)}{w w1:World}{b n:Nat}{D:DataW H}(h:w.ownsMap P k R b n D)(hb:Below w.heap.size w w1):w1.ownsMap P k R b n D:=by
 obtain⟨es,clock,h1,h2⟩:=h;exact⟨es,clock,(hb.block b (Array.getElem?_eq_some_iff.1 h1).1).trans h1,h2⟩
def Qsp(l:List S36)(ks:List ByteArray):Nat→List S36
 | 0=>[]
 | k+1=>if(Qic l (Qrz l (ks.getD k ByteArray.empty) l.length)).f0=true then Qsp l ks k else Qsp l ks k++[Qic l (Qrz l (ks.getD k ByteArray.empty) l.length)]
theorem Qsq(l:List S36)(ks:List ByteArray):∀k,(Qsp l ks k).length≤k
 | 0=>by simp[Qsp]
 | k+1=>by
  unfold Qsp;have:=Qsq l ks k;split<;>simp<;>omega
def Qbk.f(l0:List S36):Option (List S36) :=
 if Qsf l0=true then if l0.length<2932031007402 then some (Qsp l0 (Qsl l0) (Qsl l0).length)else none else none
theorem Qbk.calls(A0:Option Addr)(c0:Nat)(l0:List S36)(r:List S36)(w:World)(hr0:Kd.C k36 w A0 l0.length l0)(hc0:l0.length≤c0)(h:Qbk.f l0=some r) :
  Calls Tryz.prog 61 #[.slice A0 l0.length c0] w fun e w'=>∃m:Value,e=.returned (m)∧Kd.R k36 36 w' w.heap.size (fun _=>True) m r∧Below w.heap.size w w':=by
 have hu:=Tryz.underlying36;have hlen:=hr0.2.1;unfold Qbk.f at h;have hk0:Qsf l0=true:=by
  by_cases e:Qsf l0=true
  ·exact e
  ·rw[if_neg e]at h;cases h
 have hl0:l0.length<2932031007402:=by
  by_cases e:l0.length<2932031007402
  ·exact e
  ·rw[if_pos hk0,if_neg e]at h;cases h
 rw[if_pos hk0,if_pos hl0]at h;have HR:=QA (Option.some.inj h);clear h;have HK:=QA hk0;clear hk0
 go_enter Tryz.func61,Tryz.ntmps61
 go_wp2_with (first
  |(go_at_call 115;refine(Qsh (H:=Unit) A0 c0 l0 w hr0 HK.out).mono ?_;rintro e w1 ⟨rfl,hown1,hb1⟩)
  |(go_at_call 68;refine(Qsn A0 c0 l0 w1 (Kd.C_below hr0 hb1) HK.out hl0).mono ?_;rintro e w2 ⟨v,rfl,hR2,hb2,hkl,hks⟩;obtain⟨A2,c2,rfl,hc2,hC2⟩:=Kd.R_reads hR2))
 have HM2:=QA (Qso hown1 hb2);have d:=QA (Qcq hb1 hb1.size hb2);have HKS:=QA hks;have HKL:=QA hkl;have t:=QA (Kd.C_below (Kd.C_below hr0 hb1) hb2);have n:=QA hC2;have hkl':=hkl;clear hown1 hb1 hR2 hb2 hks hkl hC2 hr0 hc2;obtain⟨ks,hksd⟩:∃ks,ks=Qsl l0:=⟨_,rfl⟩;rw[← hksd]at HKS HKL n HR hkl' ⊢;clear hksd
 go_loopw [4,13] (fun v4 i wr=>∃(k:Nat) (iv:Int),k≤ks.length∧i=.int .i64 iv∧Aside0 (iv=(k:Int))∧Aside0 (Kd.R k36 36 wr w2.heap.size (fun _=>True) v4 (Qsp l0 ks k))∧Aside0 (Below w2.heap.size w2 wr))
  (fun _ i _=>ks.length-(intOf i).toNat)
 case atStart=>exact⟨0,0,Nat.zero_le _,rfl,⟨rfl⟩,⟨Kd.R_nil _ _ _ _ _⟩,⟨Below.refl _ _⟩⟩
 case round =>
  obtain⟨k,iv,hk,rfl,HI,HO,HB⟩:=hrel
  by_cases hlt:k<ks.length
  ·have hge:0≤iv:=by have:=HI.out;omega
   have hl2:iv<(ks.length:Int):=by have:=HI.out;omega
   have hpos:0<l0.length:=by omega
   have keep:∀ {a:Addr} {v:Value},w2.cell? a=some v→wr.cell? a=some v:=fun {a} {v} h=>(HB.out.cell (World.block_lt_of_cell? w2 _ h)).trans h
   obtain⟨z,ck,rfl,hck,hKk,hcell⟩:=ReadsRow.get_ n.out ByteArray.empty iv hge hl2;obtain⟨key,hkey0⟩:∃key,key=ks.getD iv.toNat ByteArray.empty:=⟨_,rfl⟩;rw[← hkey0]at hKk;have hKk':ck=[.string key]:=hKk;subst hKk';have hcz:=keep (hcell 0 _ rfl);rw[show Kd.string.sz=1 from rfl,Nat.mul_one,Nat.add_zero]at hcz;have hkm:key.size≤maxLen:=by
    rw[hkey0,List.getD_eq_getElem?_getD,List.getElem?_eq_getElem (show iv.toNat<ks.length by omega)];exact HKS.out _ (List.getElem_mem _)
   have hkey:=keyOf_string_mk Tryz.underlying9 hkm;have HKY:=QA hkey0;clear hkey0 hcell hKk hck;obtain⟨cc,hcc⟩:∃cc,cc=Qrz l0 key l0.length:=⟨_,rfl⟩;have p:0≤cc:=by rw[hcc];exact Qsa _ _ _
   have s:cc<(l0.length:Int):=by rw[hcc];exact Qsb _ _ _ hpos
   have HCC:=QA hcc;clear hcc;obtain⟨ad,rfl,b,g,j,l⟩:=Qid t.out _ p s;replace b:=keep b;replace g:=keep g;replace j:=keep j;replace l:=keep l;clear keep;obtain⟨rc,hrc⟩:∃rc,rc=Qic l0 cc:=⟨_,rfl⟩;rw[← hrc]at b g j l;have HRC:=QA hrc;clear hrc;have HMr:=QA (Qso HM2.out HB.out);obtain⟨W,hW⟩:∃W,W=wr.alloc (.cells #[.bool rc.f0,.int .u64 rc.f1,.string rc.f2,.string rc.f3] 36):=⟨_,rfl⟩;clear hW
   by_cases hd:rc.f0=true
   ·have HD:=QA hd;rw[hd]at b;clear hd
    go_wp2_with (at_lookup;refine wpList_lookup_own_int _ rfl _ _ 204 rfl 9 3 .i64 Qrw Tryz.underlying204 Tryz.underlying3 (Qrx _) w.heap.size l0.length _ rfl HMr.out _ _ rfl hkey ?_;intro c hat hwc;have hce:c=cc:=(Qsi (hat.symm.trans (Qse l0 key l0.length))).trans HCC.out.symm;clear hat hwc;subst hce)
    go_roundw
    case rel=>exact⟨k+1,iv+1,by omega,by go_num,⟨by have:=HI.out;omega⟩,⟨by
     have e1:iv.toNat=k:=by have:=HI.out;omega
     have e2:=HKY.out;rw[e1]at e2;show Kd.R _ _ _ _ _ _ (Qsp l0 ks (k+1));unfold Qsp;rw[← e2,← HCC.out,← HRC.out,if_pos HD.out];exact Kd.R_below HO.out ((Below.refl _ _).alloc (Nat.le_refl _) _)⟩,⟨HB.out.alloc HB.out.size _⟩⟩
    case measure=>simp[intOf];omega
   ·have hd':rc.f0=false:=by simpa using hd
    have HD:=QA hd;rw[hd']at b;have HD':=QA hd';clear hd hd'
    go_wp2_with (first |(at_lookup;refine wpList_lookup_own_int _ rfl _ _ 204 rfl 9 3 .i64 Qrw Tryz.underlying204 Tryz.underlying3 (Qrx _) w.heap.size l0.length _ rfl HMr.out _ _ rfl hkey ?_;intro c hat hwc;have hce:c=cc:=(Qsi (hat.symm.trans (Qse l0 key l0.length))).trans HCC.out.symm;clear hat hwc;subst hce) |(at_builtin;refine Kd.R_append k36 (w0:=w2) w2.heap.size rfl (.tmp 26) (.tmp 28) 22 36 (.agg #[(.bool false),(.int .u64 0),(.string ⟨#[]⟩),(.string ⟨#[]⟩)]) 48 rfl Tryz.underlying22 Qhy rfl (by decide) (by omega) u4 (Qsp l0 ks k) rc [.bool false,.int .u64 rc.f1,.string rc.f2,.string rc.f3] (fun _=>True) (fun _=>False) rfl ?ax ?aP (fun _ hk=>hk.elim) ?aF ?aO ?aB ?aS ?aL ?_;(case ax=>rw[World.size_alloc];rfl);(case aP=>rw[← HD'.out];exact Qib _ _ _ rc);(case aF=>intro q hq;trivial);(case aO=>exact Kd.R_below HO.out ((Below.refl _ _).alloc (Nat.le_refl _) _));(case aB=>exact HB.out.alloc HB.out.size _);(case aS=>rw[World.size_alloc];have:=HB.out.size;omega);(case aL=>have:=Qsq l0 ks k;omega);intro v1 w3 o hb1 u hat1;have x:=QA o;have y:=QA hb1;clear o hb1 u hat1))
    go_roundw
    case rel=>exact⟨k+1,iv+1,by omega,by go_num,⟨by have:=HI.out;omega⟩,⟨by
     have e1:iv.toNat=k:=by have:=HI.out;omega
     have e2:=HKY.out;rw[e1]at e2;show Kd.R _ _ _ _ _ _ (Qsp l0 ks (k+1));unfold Qsp;rw[← e2,← HCC.out,← HRC.out,if_neg HD.out];exact x.out⟩,⟨y.out⟩⟩
    case measure=>simp[intOf];omega
  ·obtain rfl:k=ks.length:=by omega
   obtain rfl:iv=(ks.length:Int):=HI.out;go_wp2;go_ret
   exact⟨_,rfl,by rw[← HR.out];exact Kd.R_lower HO.out d.out.size,Qcq d.out d.out.size HB.out⟩
end Go.Proofs.YtepkfjmjidjedaaGreat.C
end
section
namespace Go.Proofs.YtepkfjmjidjedaaGreat.C
open Go.RowKit Go.Proofs.YtepkfjmjidjedaaGreatW.PrintWords Go.Proofs.YtepkfjmjidjedaaGreatW.PrintLast Go.Proofs.YtepkfjmjidjedaaGreatW.PrintMore
attribute [local go_sem] Qhj Qhk Qhl Qhm Qhn Qho Qhp Qhq
def Qbt.l0:Nat→List (S132)→List (S36)→Int→Int→Option (List Int × Int)
 | 0,_,_,_,_=>none
 | k+1,x4,x8,x9,x10=>if x10<x9 then(if 0≤x10 then(if x10<(x8.length:Int)then(if x4.length<4398046511104 then(Qbt.l0 k (x4++[(⟨(Qic x8 x10).f2,(Qic x8 x10).f3⟩:S132)]) x8 x9 (wrap64 (x10+1)))else(none))else(none))else(none))else((Qap.f x4).bind fun bt266=>(some (bt266.1,bt266.2)))
def Qbt.f(k:Nat)(l0:List (S36)):Option (List Int × Int):=(Qbk.f l0).bind fun t258=>(Qbt.l0 k ([]:List (S132)) t258 (t258.length:Int) 0)
theorem Qbt.calls(k:Nat)(A0:Option Addr)(c0:Nat)(l0:List (S36))(r1:List Int)(r2:Int)(w:World)(hr0:Kd.C k36 w A0 l0.length l0)(hc0:l0.length≤c0)(h:Qbt.f k l0=some (r1,r2)) :
  Calls Tryz.prog 33 #[.slice A0 l0.length c0] w fun e w'=>∃G:Value,e=.returned (.tuple #[G,.int .i64 r2])∧Kd.R (Kd.int .u8) 5 w' w.heap.size (fun _=>True) G r1∧Below w.heap.size w w':=by
 have hu36:=Tryz.underlying36;have hu132:=Tryz.underlying132;have aa:=QA hr0;have ab:=QA hc0;clear hr0 hc0;have HB:=QA (Below.refl w.heap.size w);have H:((Qbk.f l0).bind fun c=>(Qbt.l0 k ([]:List (S132)) c (c.length:Int) 0))=some (r1,r2):=h;clear h;replace H:=Option.bind_eq_some_iff.mp H;obtain⟨c,I,H⟩:=H;have A2:=QA I;clear I;have H':=QA H;clear H
 go_enter Tryz.func33,Tryz.ntmps33
 go_wp2_with (first |((with_reducible refine Qhr (f:=61) rfl ?_);refine Qfz (some 8) rfl rfl Tryz.func61 qq_6 rfl #[.slice A0 l0.length c0] rfl qq_2 ?_;(with_reducible refine(Qbk.calls _ _ l0 c _ ?side1 ?side2 A2.out).mono ?_);(case side1=>repeat(first|exact aa.out |(with_reducible refine Kd.C_alloc ?_ _) |(with_reducible refine Kd.C_drewN ?_ _) |(with_reducible refine Kd.C_drew ?_)));(case side2=>exact ab.out);rintro e w3 ⟨ai,rfl,r,hb⟩;refine⟨_,rfl,?_⟩;have n_:=qn2 (Kd.R_lower r (Qet qq_b)) (Qeu qq_b hb);clear HB;obtain⟨u,HB⟩:=n_;(try clear hb);(try clear hb2);(try clear hk);(try clear hi);(try clear r);obtain⟨Ao4,co4,eo4⟩:=Kd.R_slice u.out;subst eo4))
 go_loopg [4,10] k (fun kq v4 ac w'=>∃(n:List (S132)) (a:Int),ac=.int .i64 a∧Aside0 (Qbt.l0 kq n c (c.length:Int) a=some (r1,r2))∧Aside0 (kq≤k)∧Aside0 (Kd.R k132 132 w' w.heap.size (fun _=>True) v4 n)∧Aside0 (Kd.R k36 36 w' w.heap.size (fun _=>True) (.slice Ao4 c.length co4) c)∧Aside0 (Below w.heap.size w w'))
 case atStart=>exact⟨(([]:List (S132))),(0),qq_7,H',⟨Nat.le_refl _⟩,⟨by first|exact Kd.R_nil _ _ _ _ _|exact Kd.N_nil _ _ _ _ _|exact Kd.V_nil _ _ _ _ _|exact Kd.Q_nil _ _ _ _ _|exact Kd.S_nil _ _ _ _ _⟩,⟨by(with_reducible repeat(first|apply Kd.R_alloc|apply Kd.R_drewN|apply Kd.R_drew));exact u.out⟩,⟨qq_b⟩⟩
 case round =>
  clear H';obtain⟨n,a,rfl,HA,HK1,j,l,HB⟩:=hrel
  cases gk with
  | zero=>exact absurd HA.out (by simp[Qbt.l0])
  | succ k1 =>
   have H:=HA.out;clear HA;simp only[Qbt.l0]at H
   by_cases c5:a<(c.length:Int)
   ·rw [if_pos c5]at H;have J:=decide_eq_true c5;clear c5
    by_cases c6:0≤a
    ·rw[if_pos c6]at H;have aj:=decide_eq_true c6;clear c6
     by_cases c7:a<(c.length:Int)
     ·rw[if_pos c7]at H;have ak:=decide_eq_true c7;clear c7
      by_cases c8:n.length<4398046511104
      ·rw[if_pos c8]at H;have L:=QA c8;clear c8;obtain⟨v,q⟩:∃y_:List (S132),y_=(n++[(⟨(Qic c a).f2,(Qic c a).f3⟩:S132)]):=⟨_,rfl⟩;replace H:(Qbt.l0 k1 v c (c.length:Int) (wrap64 (a+1)))=some (r1,r2):=by first |(rw[q];with_reducible exact H) |(have x:=(Option.bind_some _ _).symm.trans H;rw[q];with_reducible exact x) |(have x:=(Option.bind_some _ _).symm.trans H;with_reducible exact x)|with_reducible exact H |(rw[q];exact H)|exact H
       have B:=QA q;clear q;have H':=QA H;clear H;have s:0≤(a:Int):=of_decide_eq_true qq_4;have t:a<(c.length:Int):=of_decide_eq_true qq_4;obtain⟨ae,M,O,P,T,U⟩:=Qid (Kd.R_reads' l.out).2.2 a s t
       cases M
       replace s:=eq_true s;replace t:=eq_true t
       go_wp2_with (first |((with_reducible refine Qfe (N:=6) rfl ?_);refine qq_e 6 #[.bool false,.int .u64 0,.string (⟨#[]⟩:ByteArray),.string (⟨#[]⟩:ByteArray)] 36 ?_;intro d hg w9 hbox hb;have n_:=qn6 (Kd.R_below (by(with_reducible repeat(first|apply Kd.R_alloc|apply Kd.R_drewN|apply Kd.R_drew));exact j.out) hb) (Kd.R_below (Kd.R_elderB (by(with_reducible repeat(first|apply Kd.R_alloc|apply Kd.R_drewN|apply Kd.R_drew));exact l.out) d (Nat.le_of_eq hg.symm)) hb) (Qeu qq_b hb) (hbox) (qq_s hg:w.heap.size≤d) (qq_s hg:w.heap.size≤d);clear j l HB;obtain⟨j,l,HB,m,af,ag⟩:=n_;clear hb hbox hg;obtain⟨W,X,Y,Z⟩:=qc4 m.out;have ah:=Qdm m.out) |((with_reducible refine Qhs (b:=.append) (xs:=#[.tmp 14,.tmp 20]) rfl ?_);at_builtin;refine Kd.R_append k132 (w0:=w) w.heap.size rfl (.tmp 14) (.tmp 20) 130 132 (.agg #[(.string ⟨#[]⟩),(.string ⟨#[]⟩)]) 32 rfl Tryz.underlying130 info132 rfl (by decide) (by omega) u4 n (⟨(Qic c a).f2,(Qic c a).f3⟩:S132) [.string ((Qic c a).f2),.string ((Qic c a).f3)] (fun _=>True) (fun _=>False) rfl qq_19 ?aP (fun _ hk=>hk.elim) ?aF ?aO ?aB ?aS ?aL ?_;(case aP=>exact Qik _ _ _ (⟨(Qic c a).f2,(Qic c a).f3⟩:S132));(case aB=>exact qq_b);(case aF=>exact(fun _ _=>trivial));(case aO=>exact(by(with_reducible repeat(first|apply Kd.R_alloc|apply Kd.R_drewN|apply Kd.R_drew));exact Kd.R_mono (Kd.R_far (p:=⟨d,3,none⟩) (Kd.R_far (p:=⟨d,2,none⟩) (Kd.R_far (p:=⟨d,1,none⟩) (Kd.R_far (p:=⟨d,0,none⟩) (Kd.R_types j.out m.out (by decide)) (fun _ hk=>hk.2) (.bool ((Qic c a).f0))) (fun _ hk=>hk.2) (.int .u64 ((Qic c a).f1))) (fun _ hk=>hk.2) (.string ((Qic c a).f2))) (fun _ hk=>hk.2) (.string ((Qic c a).f3))) (fun _ hk=>trivial)));(case aS=>exact(Qet qq_b));(case aL=>have:=L.out;omega);intro al an ho hb hg hat;rw[← B.out]at ho;have n_:=qn4 (Kd.R_over' (by(with_reducible repeat(first|apply Kd.R_alloc|apply Kd.R_drewN|apply Kd.R_drew));exact(Kd.R_mono (Kd.R_far (p:=⟨d,3,none⟩) (Kd.R_far (p:=⟨d,2,none⟩) (Kd.R_far (p:=⟨d,1,none⟩) (Kd.R_far (p:=⟨d,0,none⟩) (Kd.R_mono l.out (fun k_ hk=>(⟨hk,hk.2⟩:_∧k_≠d))) (fun _ hk=>hk.2) (.bool ((Qic c a).f0))) (fun _ hk=>hk.2) (.int .u64 ((Qic c a).f1))) (fun _ hk=>hk.2) (.string ((Qic c a).f2))) (fun _ hk=>hk.2) (.string ((Qic c a).f3))) (fun _ h_=>h_.1))) (Kd.R_typed (by(with_reducible repeat(first|apply Kd.R_alloc|apply Kd.R_drewN|apply Kd.R_drew));exact(Kd.R_mono (Kd.R_far (p:=⟨d,3,none⟩) (Kd.R_far (p:=⟨d,2,none⟩) (Kd.R_far (p:=⟨d,1,none⟩) (Kd.R_far (p:=⟨d,0,none⟩) (Kd.R_types j.out m.out (by decide)) (fun _ hk=>hk.2) (.bool ((Qic c a).f0))) (fun _ hk=>hk.2) (.int .u64 ((Qic c a).f1))) (fun _ hk=>hk.2) (.string ((Qic c a).f2))) (fun _ hk=>hk.2) (.string ((Qic c a).f3))) (fun _ h_=>h_.1)))) (by decide) hg) (Qdn (g:=d) (o:=.cells #[.bool ((Qic c a).f0),.int .u64 ((Qic c a).f1),.string ((Qic c a).f2),.string ((Qic c a).f3)] 36 (0,0)) qq_x hg (Kd.R_ne j.out m.out (by decide))) (hb) (ho);clear l m HB j;obtain⟨l,m,HB,D⟩:=n_;clear ho hb hg hat))
       go_roundg k1
       case measure=>have:=HK1.out;omega
       case rel=>exact⟨(v),(wrap64 (a+1)),qq_7,H',⟨by have:=HK1.out;omega⟩,⟨by(with_reducible repeat(first|apply Kd.R_alloc|apply Kd.R_drewN|apply Kd.R_drew));exact D.out⟩,⟨by(with_reducible repeat(first|apply Kd.R_alloc|apply Kd.R_drewN|apply Kd.R_drew));exact Kd.R_mono l.out (fun _ hk=>trivial)⟩,⟨qq_b⟩⟩
      ·rw[if_neg c8]at H;exact absurd H (by simp)
     ·rw[if_neg c7]at H;exact absurd H (by simp)
    ·rw[if_neg c6]at H;exact absurd H (by simp)
   ·rw[if_neg c5]at H;have J:=decide_eq_false c5;clear c5;replace H:=Option.bind_eq_some_iff.mp H;obtain⟨⟨y,z⟩,A,H⟩:=H;replace H:(some (y,z))=some (r1,r2):=H;have ad:=QA A;clear A;simp only[Option.some.injEq,Prod.mk.injEq]at H;obtain⟨rfl,rfl⟩:=H;obtain⟨Ao13,co13,eo13⟩:=Kd.R_slice j.out;subst eo13
    go_wp2_with (first |((with_reducible refine Qhr (f:=62) rfl ?_);refine Qfz (some 24) rfl rfl Tryz.func62 qq_6 rfl #[.slice Ao13 n.length co13] rfl qq_2 ?_;(with_reducible refine(Qap.calls _ _ n y z _ ?side1 ?side2 ad.out).mono ?_);(case side1=>repeat(first|exact(Kd.R_reads' j.out).2.2 |(with_reducible refine Kd.C_alloc ?_ _) |(with_reducible refine Kd.C_drewN ?_ _) |(with_reducible refine Kd.C_drew ?_)));(case side2=>exact(Kd.R_reads' j.out).2.1);rintro e ao ⟨am,rfl,r,hb⟩;refine⟨_,rfl,?_⟩;have n_:=qn4 (Kd.R_below (by(with_reducible repeat(first|apply Kd.R_alloc|apply Kd.R_drewN|apply Kd.R_drew));exact j.out) hb) (Kd.R_below (by(with_reducible repeat(first|apply Kd.R_alloc|apply Kd.R_drewN|apply Kd.R_drew));exact l.out) hb) (Kd.R_lower r (Qet qq_b)) (Qeu qq_b hb);clear j l HB;obtain⟨j,l,E,HB⟩:=n_;(try clear hb);(try clear hb2);(try clear hk);(try clear hi);(try clear r)))
    go_ret2
    exact⟨_,by first|rfl |(simp[Qhv,Qhw]<;>rfl) |(simp[*,Qhv,Qhw]<;>rfl),by(with_reducible repeat(first|apply Kd.R_alloc|apply Kd.R_drewN|apply Kd.R_drew));exact E.out,qq_b⟩
end Go.Proofs.YtepkfjmjidjedaaGreat.C
end
