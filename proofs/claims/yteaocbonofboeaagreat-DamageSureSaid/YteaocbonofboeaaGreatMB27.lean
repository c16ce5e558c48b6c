/- Merged texts. -/
import Derived.Test.YteaocbonofboeaaGreatMB26
import Derived.Test.YteaocbonofboeaaGreatMB23
import Derived.Test.YteaocbonofboeaaGreatMB12
set_option linter.unusedVariables false
set_option linter.unusedSimpArgs false
set_option maxHeartbeats 8000000
set_option maxRecDepth 100000
section
namespace Go.Proofs.YteaocbonofboeaaGreat.CodecP
open Go.RowKit Go.Proofs.YteaocbonofboeaaGreat.C Go.Proofs.YteaocbonofboeaaGreatW.PrintWords Go.Proofs.YteaocbonofboeaaGreatW.PrintLast Go.Proofs.YteaocbonofboeaaGreatW.PrintMore
theorem stuff_most:∀(n:Nat) (b:List Int),b.length≤n→(Qle b).length≤b.length+1+(b.length-1)/254
 | n,b,hn=>by
  rcases Int.lt_or_le (ixOf (b.take 254) 0) 0 with h0|h0
  ·by_cases hl:254<b.length
   ·rw[Qli h0 hl]
    match n,hn with
    | 0,hn=>omega
    | n+1,hn =>
     have ih:=stuff_most n (b.drop 254) qq_31;rw[List.length_drop]at ih;rw[List.length_cons,List.length_append,List.length_take];omega
   ·rw[Qlj h0 hl,List.length_cons];omega
  ·obtain⟨p,hp⟩:=Int.eq_ofNat_of_zero_le h0;have h1:=(Qlc (b.take 254) 0).2;rw[List.length_take,hp]at h1;rw[Qlh hp]
   match n,hn with
   | 0,hn=>omega
   | n+1,hn =>
    have ih:=stuff_most n (b.drop (p+1)) qq_31;rw[List.length_drop]at ih;rw[List.length_cons,List.length_append,List.length_take];omega
theorem sealL_most(b:List Int):(Qmx b).length≤b.length+8+1+(b.length+8-1)/254+1:=by
 have h:=stuff_most _ (b++leb (Qmr 0 b) 8) (Nat.le_refl _);rw[List.length_append,Qke]at h;unfold Qmx;rw[List.length_append];simp;omega
theorem fence_len(l:List Ent):(Qoi l).length=(l.length+15)/16:=by simp[Qoi,chN]
theorem foot_len(u:Int)(l:List Ent):((Qpm u l).length:Int)≤Qvf (l.length:Int):=by
 have h:=sealL_most ([4]++leb l.length 4++leb u 4++l.flatMap ent++(Qoi l).flatMap (fun x=>leb x 8));have h2:=Qpr (l.length:Int) u l;rw[List.nil_append]at h2;rw[h2,fence_len]at h;unfold Qpm Qvf;obtain⟨c,hc⟩:∃c,c=(l.length+15)/16:=⟨_,rfl⟩;have hcI:((l.length:Int)+15)/16=(c:Int):=by omega
 rw[hcI];rw[← hc]at h;clear hc hcI h2;obtain⟨g,hg⟩:∃g,g=(9+12*l.length+8*c+8-1)/254:=⟨_,rfl⟩;have hgI:(9+12*(l.length:Int)+8*(c:Int)+8-1)/254=(g:Int):=by omega
 rw[hgI];rw[← hg]at h;clear hg hgI;omega
theorem le_trans_E(x y z:Ent)(h1:(!(ltOf cfE) y x)=true)(h2:(!(ltOf cfE) z y)=true):(!(ltOf cfE) z x)=true:=by
 rw[Qot]at *;simp at *;omega
theorem le_total_E(x y:Ent):((!(ltOf cfE) y x) ||(!(ltOf cfE) x y))=true:=by
 rw[Qot,Qot];simp;omega
theorem sortE_pair(l:List Ent):(Qor l).Pairwise (fun x y=>(!(ltOf cfE) y x)=true):=List.pairwise_mergeSort le_trans_E le_total_E l
theorem rising_of:∀(l:List Ent),l.Pairwise (fun x y=>(!(ltOf cfE) y x)=true)→l.Nodup→Qpe l=true
 | [],_,_=>rfl
 | [_],_,_=>rfl
 | a :: b :: t,hp,hn=>by
  have hp2:=List.pairwise_cons.1 hp;have hn2:=List.pairwise_cons.1 hn;have ih:=rising_of (b :: t) hp2.2 hn2.2;have h1:=hp2.1 b (by simp);have h2:=hn2.1 b (by simp);have h3:ltOf cfE a b=true:=by
   cases h:ltOf cfE a b with
   | true=>rfl
   | false=>exact absurd (totE a b h (by simpa using h1)) h2
  unfold Qpe ltE;rw[ih]
  simpa [ltOf]using h3
theorem sort_rising{l:List Ent}(h:l.Nodup):Qpe (Qor l)=true:=rising_of _ (sortE_pair l) ((Qpb l).nodup_iff.2 h)
def okB(e s n:Int)(i:Nat)(B:Bd):Prop :=
 B.1=(e,s,n,(B.2.1.length:Int),(B.2.2.length:Int))∧B.2.2.length≤i∧(∀x∈B.2.2,wfE x∧x.f1<(B.2.1.length:Int))∧B.2.2.Pairwise (fun x y=>x.f1<y.f1)∧(B.2.1.length:Int)≤16777216
def putB(e s n:Int)(B:Bd)(r:Rec):Bd :=
 ((e,s,n,((B.2.1++Qwf r).length:Int),((B.2.2.length+1:Nat):Int)),B.2.1++Qwf r,B.2.2++[⟨Qmr 0 (bytesOf r.f2),(B.2.1.length:Int)%4294967296⟩])
def freshB(e s n:Int):Bd:=((e,s,n,Qvb e s n,0),Qnc e s n,[])
theorem new_good{e s:Int}(h:Good e s)(n:Int)(h0:0≤n)(h1:n<s):newB e s n=some (freshB e s n):=by
 unfold newB;rw[Qvr h n h0 h1,Option.bind_some,Qvq h n h0 h1,Option.bind_some];simp[freshB]
theorem Qew(e s n:Int)(i:Nat):okB e s n i (freshB e s n):=by
 have:=Qvd e s n;refine⟨by simp[freshB,Qvb],by simp[freshB],by simp[freshB],by simp[freshB],?_⟩;unfold Qvb at this;simp only[freshB];omega
theorem large_no{e s:Int}(h:Good e s){x:Int}(hx1:x≤1152921504606846976)(hf:Qvm e (Qvb e s (s-1)) 0 x=true):Qcl.f e s x=some false:=by
 have hr:=Qvd e s (s-1);have hg:=h;obtain⟨g1,g2,g3,g4⟩:=hg;unfold Qcl.f;rw[show(s-1)%4294967296=s-1 by omega,Qvr h (s-1) (by omega) (by omega),Option.bind_some];dsimp only;rw[if_pos rfl,Qvn h _ _ _ _ (by omega) (by omega) (by omega) (by omega) hx1,hf];rfl
theorem add_good{e s n:Int}(h:Good e s){i:Nat}{B:Bd}{r:Rec}(hB:okB e s n i B)(hi:i≤1000000)(hc:chkR r=0)(hw:0≤r.f1∧r.f1<18446744073709551616)
  (hl:Qvm e (Qvb e s (s-1)) 0 (fsz r)=true) (hf:Qvm e (B.2.1.length:Int) (B.2.2.length:Int) (fsz r)=true) :
  addB B r=some (putB e s n B r)∧okB e s n (i+1) (putB e s n B r)∧((putB e s n B r).2.1.length:Int)+Qvf ((putB e s n B r).2.2.length:Int)≤szN e∧(putB e s n B r).2.2≠[]:=by
 obtain⟨b1,b2,b3,b4,b5⟩:=hB;have hx:=Qwi r hc;have hft:=Qvo hf;have hsz:=Qvi h.1 h.2.1;have hm:=Qvl ((B.2.2.length:Int)+1) (by omega) (by omega);have hlen:((B.2.1++Qwf r).length:Int)=(B.2.1.length:Int)+fsz r:=by rw[List.length_append];unfold fsz;omega
 have hh:=Qmw 0 (bytesOf r.f2);have hmod:(B.2.1.length:Int)%4294967296=(B.2.1.length:Int):=by omega
 refine⟨?_,⟨?_,?_,?_,?_,?_⟩,?_,?_⟩
 ·unfold addB;rw[if_pos (show chk r.f0 r.f2 r.f3=0 from hc),Qwj r hc hw.1 hw.2,Option.bind_some,b1];dsimp only;rw[show((Qwf r).length:Int)=fsz r from rfl,large_no h (by omega) hl,Option.bind_some,Qvp h n _ _ _ (by omega) (by omega) (by omega) (by omega) (by omega) hf,Option.bind_some];dsimp only;rw[if_pos ⟨rfl,rfl,rfl,by have hfz:((Qwf r).length:Int)=fsz r:=rfl;omega,by omega⟩];unfold putB;rw[hlen];simp
 ·simp[putB]
 ·simp only[putB,List.length_append,List.length_cons,List.length_nil];omega
 ·intro x hxm;simp only[putB]at hxm ⊢;rw[hlen]
  rcases List.mem_append.1 hxm with hm' | hm'
  ·have:=b3 x hm';exact⟨this.1,by omega⟩
  ·simp only[List.mem_singleton]at hm';subst hm';rw[hmod];exact⟨⟨hh,(show(0:Int)≤(B.2.1.length:Int)by omega),(show(B.2.1.length:Int)<4294967296 by omega)⟩,by dsimp only;omega⟩
 ·simp only[putB];rw[List.pairwise_append];refine⟨b4,by simp,?_⟩;intro x hx y hy;simp only[List.mem_singleton]at hy;subst hy;rw[hmod];exact(b3 x hx).2
 ·simp only[putB];rw[hlen];omega
 ·simp only[putB];rw[hlen,List.length_append];simp only[List.length_cons,List.length_nil];have:(((B.2.2.length+(0+1):Nat)):Int)=(B.2.2.length:Int)+1:=by omega
  rw[this];omega
 ·simp[putB]
theorem any_sort(u:Int){l:List Ent}(h:∀x∈l,x.f1<u):(Qor l).any (fun x=>decide (u≤x.f1))=false:=by
 rw[List.any_eq_false];intro x hx;have:=h x ((Qpb l).mem_iff.1 hx);simp;omega
theorem pair_nodup{l:List Ent}(h:l.Pairwise (fun x y=>x.f1<y.f1)):l.Nodup:=h.imp (fun {a b} hab he=>by subst he;omega)
theorem seal_good{e s n:Int}(h:Good e s){i:Nat}{B:Bd}(hB:okB e s n i B)(hi:i≤1000000)(hne:B.2.2≠[])(hr:(B.2.1.length:Int)+Qvf (B.2.2.length:Int)≤szN e) :
  ∃o,Qpu B=some o∧o.length=(szN e).toNat∧B.2.1 <+: o:=by
 obtain⟨b1,b2,b3,b4,b5⟩:=hB;have hsz:=Qvi h.1 h.2.1;have hu:Qpt B=(B.2.1.length:Int):=by unfold Qpt;omega
 have hfl:=foot_len (Qpt B) (Qor B.2.2);rw[Qos]at hfl;have hn0:B.2.2.length≠0:=fun he=>hne (List.eq_nil_of_length_eq_zero he)
 have hck:Qpj (Qpt B) (Qor B.2.2)=0:=by
  unfold Qpj;rw[Qos,if_neg hn0,if_neg (by omega),sort_rising (pair_nodup b4),if_neg (by simp),any_sort _ (fun x hx=>by rw[hu];exact(b3 x hx).2),if_neg (by simp)]
 unfold Qpu;rw[b1];dsimp only;rw[Qvj h,Option.bind_some,if_pos ⟨hn0,by omega,fun x hx=>(b3 x hx).1,hck,by omega,by omega⟩];refine⟨_,rfl,?_,?_⟩
 ·rw[List.length_append,List.length_replicate,List.length_append];omega
 ·rw[List.append_assoc];exact List.prefix_append _ _
theorem open_good{e s n:Int}(h:Good e s){i:Nat}{B:Bd}(hB:okB e s n i B)(hr:(B.2.1.length:Int)≤szN e) :
  ∃o,Qpv B=some o∧o.length=(szN e).toNat∧B.2.1 <+: o:=by
 obtain⟨b1,b2,b3,b4,b5⟩:=hB;have hsz:=Qvi h.1 h.2.1;unfold Qpv;rw[b1];dsimp only;rw[Qvj h,Option.bind_some,if_pos ⟨by omega,by omega⟩];refine⟨_,rfl,?_,List.prefix_append _ _⟩;rw[List.length_append,List.length_replicate];omega
theorem planP_pre(e s:Int):∀(l out:List Int) (n u c:Int),(Qvt e s l out n u c).2=0→out <+: (Qvt e s l out n u c).1
 | [],out,n,u,c,h=>by unfold Qvt;exact List.prefix_rfl
 | x :: t,out,n,u,c,h=>by
  unfold Qvt at h ⊢
  by_cases hf:Qvm e (Qvb e s (s-1)) 0 x=false
  ·rw[if_pos hf]at h;cases h
  ·rw[if_neg hf]at h ⊢
   by_cases hq:Qvm e u c x=true
   ·rw[if_pos hq]at h ⊢;exact(List.prefix_append _ _).trans (planP_pre e s t _ _ _ _ h)
   ·rw[if_neg hq]at h ⊢
    by_cases hs:n+1<s
    ·rw[if_pos hs]at h ⊢;exact(List.prefix_append _ _).trans (planP_pre e s t _ _ _ _ h)
    ·rw[if_neg hs]at h;cases h
theorem pre_at{into:List Int}{i:Nat}{x:Int}(h:into.take i++[x] <+: into)(hi:i<into.length):rd into (i:Int)=x∧into.take (i+1)=into.take i++[x]:=by
 obtain⟨t,ht⟩:=h;have h1:=congrArg (fun l=>l[i]?) ht;have h2:(into.take i).length=i:=by rw[List.length_take];omega
 have h3:(into.take i++[x]++t)[i]? = some x:=by
  rw[List.append_assoc,List.getElem?_append_right (by omega),h2,Nat.sub_self];rfl
 rw[h3]at h1;refine⟨?_,?_⟩
 ·rw[rd_get hi];have h4:=List.getElem?_eq_getElem hi;rw[← h1]at h4;exact(Option.some.inj h4).symm
 ·rw[List.take_add_one,← h1];rfl
def PP(e:Int)(fin:List Int)(last:Int)(p:Plc)(r:Rec):Prop :=
 0≤p.f0∧p.f0≤last∧0≤p.f1∧p.f1≤16777216∧p.f0.toNat*(szN e).toNat+p.f1.toNat+(Qwf r).length≤fin.length∧(fin.drop (p.f0.toNat*(szN e).toNat+p.f1.toNat)).take (Qwf r).length=Qwf r
def Placed(P:Plc→Rec→Prop):List Plc→List Rec→Prop
 | [],[]=>True
 | p :: ps,r :: rs=>P p r∧Placed P ps rs
 | _,_=>False
theorem pre_part{a b fin:List Int}(h:(a++b) <+: fin):a.length+b.length≤fin.length∧(fin.drop a.length).take b.length=b:=by
 obtain⟨t,rfl⟩:=h;refine⟨by simp,?_⟩;rw[List.append_assoc,List.drop_left,List.take_left]
theorem room_lim{e s n:Int}(h:Good e s)(h1:n<s):n.toNat*(szN e).toNat+(szN e).toNat≤lim:=by
 have hsz:=Qvi h.1 h.2.1;obtain⟨g1,g2,g3,g4⟩:=h;have:(n.toNat+1)*(szN e).toNat≤65536*16777216:=Nat.mul_le_mul (by omega) (by omega);rw[Nat.add_mul,Nat.one_mul]at this;unfold lim;omega
theorem enc_run{e s:Int}(hG:Good e s)(l:List Rec)(into:List Int)(hl:l.length≤1000000)(hw:Wf l)(hc:chkL l=0)(hil:into.length=l.length) :
  ∀(d i:Nat) (out:List Int) (n:Int) (B:Bd),i+d=l.length→1≤i→okB e s n i B→B.2.2≠[]→(B.2.1.length:Int)+Qvf (B.2.2.length:Int)≤szN e→0≤n→n<s→out.length=n.toNat*(szN e).toNat→rd into ((i:Int)-1)=n →
  Qvt e s ((l.drop i).map fsz) (into.take i) n (B.2.1.length:Int) (B.2.2.length:Int)=(into,0) →
  ∃fin,encG e s into i (l.drop i) out (some B)=some fin∧(out++B.2.1) <+: fin∧n≤rd into ((into.length:Int)-1)∧rd into ((into.length:Int)-1)<s∧fin.length=((rd into ((into.length:Int)-1)).toNat+1)*(szN e).toNat ∧
   Placed (PP e fin (rd into ((into.length:Int)-1))) (Qwr e s (some n) (B.2.1.length:Int) (into.drop i) ((l.drop i).map fsz)) (l.drop i):=by
 have hsz:=Qvi hG.1 hG.2.1;intro d
 induction d with
 | zero =>
  intro i out n B hd hi hB hne hr h0 h1 ho hprev hp;have hi':i=into.length:=by omega
  have hmm:=Qvl (B.2.2.length:Int) (by omega) (by have:=hB.2.1;omega);obtain⟨o,e1,e2,t,e3⟩:=open_good hG hB (by omega);have hlim:=room_lim hG h1;rw[← hi',hprev,List.drop_of_length_le (by omega),List.drop_of_length_le (by omega)];refine⟨out++o,?_,?_,Int.le_refl _,h1,?_,?_⟩
  ·unfold encG;rw[e1,Option.bind_some,if_pos (by omega)]
  ·rw[← e3,← List.append_assoc];exact List.prefix_append _ _
  ·rw[List.length_append,ho,e2,Nat.add_mul,Nat.one_mul]
  ·simp[Qwr,Placed]
 | succ d ihd =>
  intro i out n B hd hi hB hne hr h0 h1 ho hprev hp;have hlt:i<l.length:=by omega
  have hlt2:i<into.length:=by omega
  have hcr:chkR l[i]=0:=Qvz hc _ (List.getElem_mem hlt);have hwr:=hw l[i] (List.getElem_mem hlt);have hx:=Qwi l[i] hcr;have hlen:∀q:List Int,((q++Qwf l[i]).length:Int)=(q.length:Int)+fsz l[i]:=fun q=>by rw[List.length_append];unfold fsz;omega
  have hiB:=hB.2.1;have hb5:=hB.2.2.2.2;rw[List.drop_eq_getElem_cons hlt,List.map_cons]at hp ⊢;unfold Qvt at hp
  by_cases hf:Qvm e (Qvb e s (s-1)) 0 (fsz l[i])=false
  ·rw[if_pos hf]at hp;cases hp
  ·rw [if_neg hf]at hp;have hft:Qvm e (Qvb e s (s-1)) 0 (fsz l[i])=true:=by simpa using hf
   by_cases hq:Qvm e (B.2.1.length:Int) (B.2.2.length:Int) (fsz l[i])=true
   ·rw[if_pos hq]at hp;obtain⟨q1,q2⟩:=pre_at qq_28 hlt2;obtain⟨a1,a2,a3,a4⟩:=add_good hG hB (by omega) hcr hwr hft hq;have hlB:((putB e s n B l[i]).2.1.length:Int)=(B.2.1.length:Int)+fsz l[i]:=hlen _;have hlT:((putB e s n B l[i]).2.2.length:Int)=(B.2.2.length:Int)+1:=by simp[putB]
    rw[← q2,← hlB,← hlT]at hp;obtain⟨fin,f1,f2,f3,f4,f5,f6⟩:=ihd (i+1) out n (putB e s n B l[i]) (by omega) (by omega) a2 a4 a3 h0 h1 ho (by rw[show((i+1:Nat):Int)-1=(i:Int)by omega];exact q1) hp;have hfp:(out++B.2.1)++Qwf l[i] <+: fin:=by rw[List.append_assoc];exact f2
    refine⟨fin,?_,(List.prefix_append _ _).trans hfp,f3,f4,f5,?_⟩
    ·rw[encG,if_pos hlt2];rw[if_neg (by omega),if_pos (q1.trans hprev.symm),a1,Option.bind_some];exact f1
    ·rw[Qvv hlt2,q1,Qwr,if_pos rfl];refine⟨?_,by rw[hlB]at f6;exact f6⟩;have hpp:=pre_part hfp;rw[List.length_append,ho]at hpp;have hmod:(B.2.1.length:Int)%4294967296=(B.2.1.length:Int):=by omega
     rw[hmod];exact⟨h0,f3,(show(0:Int)≤(B.2.1.length:Int)by omega),(show(B.2.1.length:Int)≤16777216 by omega),hpp.1,hpp.2⟩
   ·rw[if_neg hq]at hp
    by_cases hs:n+1<s
    ·rw[if_pos hs]at hp;obtain⟨q1,q2⟩:=pre_at qq_28 hlt2;obtain⟨o,e1,e2,t,e3⟩:=seal_good hG hB (by omega) hne hr;have hhd:=Qvd e s (n+1);have hfr:((freshB e s (n+1)).2.1.length:Int)=Qvb e s (n+1):=rfl;have hfit:Qvm e ((freshB e s (n+1)).2.1.length:Int) ((freshB e s (n+1)).2.2.length:Int) (fsz l[i])=true:=Qvu hG (by omega) (by omega) hft;obtain⟨a1,a2,a3,a4⟩:=add_good hG (Qew e s (n+1) i) (by omega) hcr hwr hft hfit;have hlB:((putB e s (n+1) (freshB e s (n+1)) l[i]).2.1.length:Int)=Qvb e s (n+1)+fsz l[i]:=hlen _;have hlT:((putB e s (n+1) (freshB e s (n+1)) l[i]).2.2.length:Int)=1:=by simp[putB,freshB]
     rw[← q2,← hlB,← hlT]at hp;have hlim:=room_lim hG h1;have hoo:(out++o).length=(n+1).toNat*(szN e).toNat:=by
      rw[List.length_append,ho,e2,show(n+1).toNat=n.toNat+1 by omega,Nat.add_mul,Nat.one_mul]
     obtain⟨fin,f1,f2,f3,f4,f5,f6⟩:=ihd (i+1) (out++o) (n+1) _ (by omega) (by omega) a2 a4 a3 (by omega) hs hoo (by rw[show((i+1:Nat):Int)-1=(i:Int)by omega];exact q1) hp;have hfp:((out++o)++Qnc e s (n+1))++Qwf l[i] <+: fin:=by rw[List.append_assoc];exact f2
     refine⟨fin,?_,?_,by omega,f4,f5,?_⟩
     ·rw[encG,if_pos hlt2];rw[if_neg (by omega),if_neg (by rw[q1,hprev];omega),e1,Option.bind_some,if_pos (by omega),q1,new_good hG (n+1) (by omega) hs,Option.bind_some,a1,Option.bind_some];exact f1
     ·refine List.IsPrefix.trans ?_ f2;rw[← e3,List.append_assoc,List.append_assoc,← List.append_assoc out];exact List.prefix_append _ _
     ·rw[Qvv hlt2,q1,Qwr,if_neg qq_37];refine⟨?_,by rw[hlB]at f6;exact f6⟩;have hpp:=pre_part hfp;rw[List.length_append,hoo]at hpp;have hhl:((Qnc e s (n+1)).length:Int)=Qvb e s (n+1):=rfl;have hmod:Qvb e s (n+1)%4294967296=((Qnc e s (n+1)).length:Int):=by omega
      rw[hmod];exact⟨(show(0:Int)≤n+1 by omega),f3,(show(0:Int)≤((Qnc e s (n+1)).length:Int)by omega),(show((Qnc e s (n+1)).length:Int)≤16777216 by omega),hpp.1,hpp.2⟩
    ·rw[if_neg hs]at hp;cases hp
theorem enc_zero{e s:Int}(hG:Good e s)(l:List Rec)(into:List Int)(hl:l.length≤1000000)(hw:Wf l)(hc:chkL l=0)(hil:into.length=l.length)(hne:l.length≠0)
  (hp:Qvt e s (l.map fsz) [] 0 (Qvb e s 0) 0=(into,0)) :
  ∃fin,encG e s into 0 l [] none=some fin∧rd into ((into.length:Int)-1)<s∧0≤rd into ((into.length:Int)-1)∧fin.length=((rd into ((into.length:Int)-1)).toNat+1)*(szN e).toNat ∧
   Placed (PP e fin (rd into ((into.length:Int)-1))) (Qwr e s none 0 into (l.map fsz)) l:=by
 have hs0:=hG.2.2.1;have hlt:0<l.length:=by omega
 have hlt2:0<into.length:=by omega
 have hcr:chkR l[0]=0:=Qvz hc _ (List.getElem_mem hlt);have hwr:=hw l[0] (List.getElem_mem hlt);have hx:=Qwi l[0] hcr;have hlen:∀q:List Int,((q++Qwf l[0]).length:Int)=(q.length:Int)+fsz l[0]:=fun q=>by rw[List.length_append];unfold fsz;omega
 have hd:l=l[0] :: l.drop 1:=by
  have:=List.drop_eq_getElem_cons hlt;rw[List.drop_zero]at this;exact this
 have hdm:l.map fsz=fsz l[0] :: (l.drop 1).map fsz:=by
  rw[← List.map_cons,← hd]
 rw[hdm]at hp ⊢;unfold Qvt at hp
 by_cases hf:Qvm e (Qvb e s (s-1)) 0 (fsz l[0])=false
 ·rw[if_pos hf]at hp;cases hp
 ·rw [if_neg hf]at hp;have hft:Qvm e (Qvb e s (s-1)) 0 (fsz l[0])=true:=by simpa using hf
  have hfit0:=Qvu hG (n:=0) (by omega) (by omega) hft;rw[if_pos hfit0]at hp;obtain⟨q1,q2⟩:=pre_at (i:=0) (x:=0) qq_28 hlt2;have a:rd into 0=0:=q1;have hfr:((freshB e s 0).2.1.length:Int)=Qvb e s 0:=rfl;have hhd:=Qvd e s 0;obtain⟨a1,a2,a3,a4⟩:=add_good hG (Qew e s 0 0) (by omega) hcr hwr hft hfit0;have hlB:((putB e s 0 (freshB e s 0) l[0]).2.1.length:Int)=Qvb e s 0+fsz l[0]:=hlen _;have hlT:((putB e s 0 (freshB e s 0) l[0]).2.2.length:Int)=1:=by simp[putB,freshB]
  have hp':Qvt e s ((l.drop 1).map fsz) (into.take 1) 0 ((putB e s 0 (freshB e s 0) l[0]).2.1.length:Int) ((putB e s 0 (freshB e s 0) l[0]).2.2.length:Int)=(into,0):=by
   rw[hlB,hlT,q2];exact hp
  obtain⟨fin,f1,f2,f3,f4,f5,f6⟩:=enc_run hG l into hl hw hc hil (l.length-1) 1 [] 0 _ (by omega) (by omega) a2 a4 a3 (by omega) (by omega) (by simp) a hp';have hfp:Qnc e s 0++Qwf l[0] <+: fin:=f2;refine⟨fin,?_,f4,f3,f5,?_⟩
  ·have:encG e s into 0 (l[0] :: l.drop 1) [] none=some fin:=by
    rw[encG,if_pos hlt2];rw[if_pos rfl,q1,new_good hG 0 (by omega) (by omega),Option.bind_some,a1,Option.bind_some];exact f1
   rw[← hd]at this;exact this
  ·have hdi:into=0 :: into.drop 1:=by
    have:=Qvv hlt2;rw[List.drop_zero,q1]at this;exact this
   have goal:Placed (PP e fin (rd into ((into.length:Int)-1))) (Qwr e s none 0 (0 :: into.drop 1) (fsz l[0] :: (l.drop 1).map fsz)) (l[0] :: l.drop 1):=by
    rw[Qwr,if_neg (by simp)];refine⟨?_,by rw[hlB]at f6;exact f6⟩;have hpp:=pre_part hfp;have hhl:((Qnc e s 0).length:Int)=Qvb e s 0:=rfl;have hmod:Qvb e s 0%4294967296=((Qnc e s 0).length:Int):=by omega
    rw[hmod];refine⟨(show(0:Int)≤0 by omega),f3,(show(0:Int)≤((Qnc e s 0).length:Int)by omega),(show((Qnc e s 0).length:Int)≤16777216 by omega),?_,?_⟩
    ·have:=hpp.1
     simpa using this
    ·have:=hpp.2
     simpa using this
   rw[← hdi,← hd]at goal;exact goal
theorem encode_ok(e s:Int)(l:List Rec)(k:Nat)(hl:l.length≤1000000)(hw:Wf l)(hk:2*l.length+10≤k)(h:(Qwn e s l).2.2=0) :
  ∃fin,Qcc.f k e s l=some (fin,0)∧0≤Qww (Qwk e s l).1∧Qww (Qwk e s l).1≤65536∧fin.length=(Qww (Qwk e s l).1).toNat*(szN e).toNat ∧
   Placed (PP e fin (Qww (Qwk e s l).1-1)) (Qwr e s none 0 (Qwk e s l).1 (l.map fsz)) l:=by
 obtain⟨hg,hr,h2,h3,h4,h5⟩:=Qwu h hl;have hs:=hg.2.2.2;unfold Qcc.f;rw[Qwp e s l k hl hw hk,Option.bind_some,if_pos h,if_pos (by omega),h3];dsimp only
 by_cases h0:l.length=0
 ·have hl0:l=[]:=List.eq_nil_of_length_eq_zero h0;subst hl0;refine⟨[],?_,?_⟩
  ·simp[encG]
  ·have:(Qwk e s []).1=[]:=rfl;rw[this];simp[Qww,Qwr,Placed]
 ·obtain⟨fin,f1,f2,f3,f4,f5⟩:=enc_zero hg l (Qwk e s l).1 hl hw (Qwo hr) h4 h0 (by
   have:Qvt e s (l.map fsz) [] 0 (Qvb e s 0) 0=Qwk e s l:=rfl;rw[this,← h2])
  have hls:Qww (Qwk e s l).1=rd (Qwk e s l).1 (((Qwk e s l).1.length:Int)-1)+1:=by
   unfold Qww;rw[if_neg (by omega)];omega
  refine⟨fin,by rw[f1];rfl,by omega,by omega,?_,?_⟩
  ·rw[hls,f4]
   congr 1
   omega
  ·rw[hls,Int.add_sub_cancel];exact f5
theorem encode_bad(e s:Int)(l:List Rec)(k:Nat)(hl:l.length≤1000000)(hw:Wf l)(hk:2*l.length+10≤k)(h:(Qwn e s l).2.2≠0):Qcc.f k e s l=some ([],(Qwn e s l).2.2):=by
 unfold Qcc.f;rw[Qwp e s l k hl hw hk,Option.bind_some,if_neg h]
def fillB(e s n:Int):Bd→List Rec→Bd
 | B,[]=>B
 | B,r :: t=>fillB e s n (putB e s n B r) t
def tailB(B:Bd)(b:Bool):List Int:=B.2.1++(if b=true then Qpm (Qpt B) (Qor B.2.2)else [])
def partB(e s n:Int)(g:List Rec):Bd:=fillB e s n (freshB e s n) g
def segB(e s n:Int)(g:List Rec)(b:Bool):List Int:=tailB (partB e s n g) b++List.replicate ((szN e).toNat-(tailB (partB e s n g) b).length) 255
def imgP(e s:Int):Int→List (List Rec)→List Int
 | _,[]=>[]
 | n,[g]=>segB e s n g false
 | n,g :: h :: t=>segB e s n g true++imgP e s (n+1) (h :: t)
def partsS(into:List Int):Nat→List Rec→List Rec→List (List Rec)
 | _,[],cur=>[cur]
 | i,r :: rs,cur=>if rd into (i:Int)=rd into ((i:Int)-1)then partsS into (i+1) rs (cur++[r])else cur :: partsS into (i+1) rs [r]
theorem partsS_ne(into:List Int):∀(rs:List Rec) (i:Nat) (cur:List Rec),∃g t,partsS into i rs cur=g :: t
 | [],i,cur=>⟨cur,[],rfl⟩
 | r :: rs,i,cur=>by
  unfold partsS;split
  ·exact partsS_ne into rs (i+1) _
  ·exact⟨_,_,rfl⟩
theorem partsS_flat(into:List Int):∀(rs:List Rec) (i:Nat) (cur:List Rec),(partsS into i rs cur).flatten=cur++rs
 | [],i,cur=>by simp[partsS]
 | r :: rs,i,cur=>by
  unfold partsS;split
  ·rw[partsS_flat into rs];simp
  ·rw[List.flatten_cons,partsS_flat into rs];simp
theorem fillB_snoc(e s n:Int):∀(g:List Rec) (B:Bd) (r:Rec),fillB e s n B (g++[r])=putB e s n (fillB e s n B g) r
 | [],_,_=>rfl
 | x :: g,B,r=>by
  show fillB e s n (putB e s n B x) (g++[r])=_;rw[fillB_snoc e s n g];rfl
theorem fillB_frames(e s n:Int):∀(g:List Rec) (B:Bd),(fillB e s n B g).2.1=B.2.1++g.flatMap Qwf
 | [],B=>by simp[fillB]
 | x :: g,B=>by
  show(fillB e s n (putB e s n B x) g).2.1=_;rw[fillB_frames e s n g,List.flatMap_cons];simp[putB]
theorem fillB_count(e s n:Int):∀(g:List Rec) (B:Bd),(fillB e s n B g).2.2.length=B.2.2.length+g.length
 | [],B=>by simp[fillB]
 | x :: g,B=>by
  show(fillB e s n (putB e s n B x) g).2.2.length=_;rw[fillB_count e s n g];simp[putB];omega
def GoodG(e s n:Int)(g:List Rec):Prop:=0≤n∧n<s∧okB e s n 1000000 (partB e s n g)∧g≠[]∧((partB e s n g).2.1.length:Int)+Qvf ((partB e s n g).2.2.length:Int)≤szN e
def AllG(e s:Int):Int→List (List Rec)→Prop
 | _,[]=>True
 | n,g :: t=>GoodG e s n g∧AllG e s (n+1) t
def StepsI(into:List Int):Nat→Nat→Int→Prop
 | 0,i,_=>i=into.length
 | d+1,i,n=>i<into.length∧((rd into (i:Int)=n∧StepsI into d (i+1) n)∨(rd into (i:Int)=n+1∧StepsI into d (i+1) (n+1)))
theorem sealB_val{B:Bd}{o:List Int}{sz:Int}(h:Qpu B=some o)(hs:Qaq.f B.1.1 B.1.2.1=some sz):o=tailB B true++List.replicate (sz.toNat-(tailB B true).length) 255:=by
 unfold Qpu at h;rw[hs,Option.bind_some]at h;split at h
 ·cases h
  rfl
 ·cases h
theorem openB_val{B:Bd}{o:List Int}{sz:Int}(h:Qpv B=some o)(hs:Qaq.f B.1.1 B.1.2.1=some sz):o=tailB B false++List.replicate (sz.toNat-(tailB B false).length) 255:=by
 unfold Qpv at h;rw[hs,Option.bind_some]at h;split at h
 ·cases h
  simp[tailB]
 ·cases h
theorem okB_more{e s n:Int}{i j:Nat}{B:Bd}(h:okB e s n i B)(hij:i≤j):okB e s n j B:=⟨h.1,by have:=h.2.1;omega,h.2.2⟩
theorem part_ne{e s n:Int}{g:List Rec}:(partB e s n g).2.2≠[]↔g≠[]:=by
 have h:=fillB_count e s n g (freshB e s n);have h0:(freshB e s n).2.2.length=0:=rfl;unfold partB;rw[← List.length_pos_iff,← List.length_pos_iff,h,h0];omega
theorem enc_img{e s:Int}(hG:Good e s)(l:List Rec)(into:List Int)(hl:l.length≤1000000)(hw:Wf l)(hc:chkL l=0)(hil:into.length=l.length) :
  ∀(d i:Nat) (out:List Int) (n:Int) (cur:List Rec),i+d=l.length→1≤i→okB e s n i (partB e s n cur)→cur≠[]→((partB e s n cur).2.1.length:Int)+Qvf ((partB e s n cur).2.2.length:Int)≤szN e→0≤n→n<s→out.length=n.toNat*(szN e).toNat→rd into ((i:Int)-1)=n →
  Qvt e s ((l.drop i).map fsz) (into.take i) n ((partB e s n cur).2.1.length:Int) ((partB e s n cur).2.2.length:Int)=(into,0) →
  encG e s into i (l.drop i) out (some (partB e s n cur))=some (out++imgP e s n (partsS into i (l.drop i) cur))∧AllG e s n (partsS into i (l.drop i) cur)∧StepsI into d i n:=by
 have hsz:=Qvi hG.1 hG.2.1;have hsize:∀ {m:Int} {i:Nat} {B:Bd},okB e s m i B→Qaq.f B.1.1 B.1.2.1=some (szN e):=fun h=>by rw[h.1];exact Qvj hG
 intro d
 induction d with
 | zero =>
  intro i out n cur hd hi hB hne hr h0 h1 ho hprev hp;have hi':i=into.length:=by omega
  have hmm:=Qvl ((partB e s n cur).2.2.length:Int) (by omega) (by have:=hB.2.1;omega);obtain⟨o,e1,e2,t,e3⟩:=open_good hG hB (by omega);have hlim:=room_lim hG h1;have hv:=openB_val e1 (hsize hB);rw[List.drop_of_length_le (by omega)];refine⟨?_,⟨⟨h0,h1,okB_more hB (by omega),hne,hr⟩,trivial⟩,hi'⟩;unfold encG;rw[e1,Option.bind_some,if_pos (by omega),hv];rfl
 | succ d ihd =>
  intro i out n cur hd hi hB hne hr h0 h1 ho hprev hp;have hlt:i<l.length:=by omega
  have hlt2:i<into.length:=by omega
  have hcr:chkR l[i]=0:=Qvz hc _ (List.getElem_mem hlt);have hwr:=hw l[i] (List.getElem_mem hlt);have hx:=Qwi l[i] hcr;have hlen:∀q:List Int,((q++Qwf l[i]).length:Int)=(q.length:Int)+fsz l[i]:=fun q=>by rw[List.length_append];unfold fsz;omega
  have hiB:=hB.2.1;have hb5:=hB.2.2.2.2;have hne2:(partB e s n cur).2.2≠[]:=part_ne.2 hne;rw[List.drop_eq_getElem_cons hlt]at hp ⊢;rw[List.map_cons]at hp;unfold Qvt at hp
  by_cases hf:Qvm e (Qvb e s (s-1)) 0 (fsz l[i])=false
  ·rw[if_pos hf]at hp;cases hp
  ·rw [if_neg hf]at hp;have hft:Qvm e (Qvb e s (s-1)) 0 (fsz l[i])=true:=by simpa using hf
   by_cases hq:Qvm e ((partB e s n cur).2.1.length:Int) ((partB e s n cur).2.2.length:Int) (fsz l[i])=true
   ·rw[if_pos hq]at hp;obtain⟨q1,q2⟩:=pre_at qq_28 hlt2;obtain⟨a1,a2,a3,a4⟩:=add_good hG hB (by omega) hcr hwr hft hq;have hpb:putB e s n (partB e s n cur) l[i]=partB e s n (cur++[l[i]]):=(fillB_snoc e s n cur _ _).symm;have hlB:((partB e s n (cur++[l[i]])).2.1.length:Int)=((partB e s n cur).2.1.length:Int)+fsz l[i]:=by rw[← hpb];exact hlen _
    have hlT:((partB e s n (cur++[l[i]])).2.2.length:Int)=((partB e s n cur).2.2.length:Int)+1:=by rw[← hpb];simp[putB]
    rw[hpb]at a1 a2 a3;rw[← q2,← hlB,← hlT]at hp;obtain⟨f1,f2,f3⟩:=ihd (i+1) out n (cur++[l[i]]) (by omega) (by omega) a2 (by simp) a3 h0 h1 ho (by rw[show((i+1:Nat):Int)-1=(i:Int)by omega];exact q1) hp;have hps:partsS into i (l[i] :: l.drop (i+1)) cur=partsS into (i+1) (l.drop (i+1)) (cur++[l[i]]):=by
     rw[partsS,if_pos (q1.trans hprev.symm)]
    rw[hps];refine⟨?_,f2,hlt2,.inl ⟨q1,f3⟩⟩;rw[encG,if_pos hlt2];rw[if_neg (by omega),if_pos (q1.trans hprev.symm),a1,Option.bind_some];exact f1
   ·rw[if_neg hq]at hp
    by_cases hs:n+1<s
    ·rw[if_pos hs]at hp;obtain⟨q1,q2⟩:=pre_at qq_28 hlt2;obtain⟨o,e1,e2,t,e3⟩:=seal_good hG hB (by omega) hne2 hr;have hv:=sealB_val e1 (hsize hB);have hhd:=Qvd e s (n+1);have hfit:Qvm e ((freshB e s (n+1)).2.1.length:Int) ((freshB e s (n+1)).2.2.length:Int) (fsz l[i])=true:=Qvu hG (by omega) (by omega) hft;obtain⟨a1,a2,a3,a4⟩:=add_good hG (Qew e s (n+1) i) (by omega) hcr hwr hft hfit;have hpb:putB e s (n+1) (freshB e s (n+1)) l[i]=partB e s (n+1) [l[i]]:=rfl;rw[hpb]at a1 a2 a3;have hlB:((partB e s (n+1) [l[i]]).2.1.length:Int)=Qvb e s (n+1)+fsz l[i]:=by rw[← hpb];exact hlen _
     have hlT:((partB e s (n+1) [l[i]]).2.2.length:Int)=1:=by rw[← hpb];simp[putB,freshB]
     rw[← q2,← hlB,← hlT]at hp;have hlim:=room_lim hG h1;have hoo:(out++o).length=(n+1).toNat*(szN e).toNat:=by
      rw[List.length_append,ho,e2,show(n+1).toNat=n.toNat+1 by omega,Nat.add_mul,Nat.one_mul]
     obtain⟨f1,f2,f3⟩:=ihd (i+1) (out++o) (n+1) [l[i]] (by omega) (by omega) a2 (by simp) a3 (by omega) hs hoo (by rw[show((i+1:Nat):Int)-1=(i:Int)by omega];exact q1) hp;have hps:partsS into i (l[i] :: l.drop (i+1)) cur=cur :: partsS into (i+1) (l.drop (i+1)) [l[i]]:=by
      rw[partsS,if_neg (by rw[q1,hprev];omega)]
     rw[hps];refine⟨?_,⟨⟨h0,h1,okB_more hB (by omega),hne,hr⟩,f2⟩,hlt2,.inr ⟨q1,f3⟩⟩;rw[encG,if_pos hlt2];rw[if_neg (by omega),if_neg (by rw[q1,hprev];omega),e1,Option.bind_some,if_pos (by omega),q1,new_good hG (n+1) (by omega) hs,Option.bind_some,a1,Option.bind_some];rw[f1,hv];obtain⟨g2,t2,hgt⟩:=partsS_ne into (l.drop (i+1)) (i+1) [l[i]];rw[hgt];show _=some (out++(segB e s n cur true++imgP e s (n+1) (g2 :: t2)));rw[List.append_assoc];rfl
    ·rw[if_neg hs]at hp;cases hp
def partsOf(into:List Int):List Rec→List (List Rec)
 | []=>[]
 | r :: rs=>partsS into 1 rs [r]
theorem partsOf_flat(into:List Int)(l:List Rec):(partsOf into l).flatten=l:=by
 cases l with
 | nil=>rfl
 | cons r rs=>unfold partsOf;rw[partsS_flat];rfl
theorem enc_parts{e s:Int}(hG:Good e s)(l:List Rec)(into:List Int)(hl:l.length≤1000000)(hw:Wf l)(hc:chkL l=0)(hil:into.length=l.length)
  (hp:Qvt e s (l.map fsz) [] 0 (Qvb e s 0) 0=(into,0)) :
  encG e s into 0 l [] none=some (imgP e s 0 (partsOf into l))∧AllG e s 0 (partsOf into l)∧(l≠[]→rd into 0=0∧StepsI into (l.length-1) 1 0):=by
 have hs0:=hG.2.2.1
 cases l with
 | nil=>exact⟨rfl,trivial,fun h=>absurd rfl h⟩
 | cons r t =>
  have hlt2:0<into.length:=by rw[hil];simp
  have hcr:chkR r=0:=Qvz hc _ (by simp);have hwr:=hw r (by simp);have hx:=Qwi r hcr;have hlen:∀q:List Int,((q++Qwf r).length:Int)=(q.length:Int)+fsz r:=fun q=>by rw[List.length_append];unfold fsz;omega
  rw[List.map_cons]at hp;unfold Qvt at hp
  by_cases hf:Qvm e (Qvb e s (s-1)) 0 (fsz r)=false
  ·rw[if_pos hf]at hp;cases hp
  ·rw[if_neg hf]at hp;have hft:Qvm e (Qvb e s (s-1)) 0 (fsz r)=true:=by simpa using hf
   have hfit0:=Qvu hG (n:=0) (by omega) (by omega) hft;rw[if_pos hfit0]at hp;obtain⟨q1,q2⟩:=pre_at (i:=0) (x:=0) qq_28 hlt2;have a:rd into 0=0:=q1;have hhd:=Qvd e s 0;obtain⟨a1,a2,a3,a4⟩:=add_good hG (Qew e s 0 0) (by omega) hcr hwr hft hfit0;have hpb:putB e s 0 (freshB e s 0) r=partB e s 0 [r]:=rfl;rw[hpb]at a1 a2 a3;have hlB:((partB e s 0 [r]).2.1.length:Int)=Qvb e s 0+fsz r:=by rw[← hpb];exact hlen _
   have hlT:((partB e s 0 [r]).2.2.length:Int)=1:=by rw[← hpb];simp[putB,freshB]
   have hp':Qvt e s (((r :: t).drop 1).map fsz) (into.take 1) 0 ((partB e s 0 [r]).2.1.length:Int) ((partB e s 0 [r]).2.2.length:Int)=(into,0):=by
    rw[hlB,hlT,q2];exact hp
   obtain⟨f1,f2,f3⟩:=enc_img hG (r :: t) into hl hw hc hil t.length 1 [] 0 [r] qq_37 (by omega) a2 (by simp) a3 (by omega) (by omega) (by simp) a hp';refine⟨?_,f2,fun _=>⟨a,by simpa using f3⟩⟩;rw[encG,if_pos hlt2];rw[if_pos rfl,q1,new_good hG 0 (by omega) (by omega),Option.bind_some,a1,Option.bind_some];exact f1
theorem encode_img(e s:Int)(l:List Rec)(k:Nat)(hl:l.length≤1000000)(hw:Wf l)(hk:2*l.length+10≤k)(h:(Qwn e s l).2.2=0) :
  Good e s∧chkL l=0∧(Qwk e s l).1.length=l.length∧Qcc.f k e s l=some (imgP e s 0 (partsOf (Qwk e s l).1 l),0)∧AllG e s 0 (partsOf (Qwk e s l).1 l)∧(l≠[]→rd (Qwk e s l).1 0=0∧StepsI (Qwk e s l).1 (l.length-1) 1 0):=by
 obtain⟨hg,hr,h2,h3,h4,h5⟩:=Qwu h hl;have hp:=enc_parts hg l (Qwk e s l).1 hl hw (Qwo hr) h4 (by
  have:Qvt e s (l.map fsz) [] 0 (Qvb e s 0) 0=Qwk e s l:=rfl;rw[this,← h2])
 refine⟨hg,Qwo hr,h4,?_,hp.2.1,hp.2.2⟩;unfold Qcc.f;rw[Qwp e s l k hl hw hk,Option.bind_some,if_pos h,if_pos (by omega),h3,hp.1,Option.bind_some]
theorem tail_fit{e s n:Int}(hG:Good e s){g:List Rec}(h:GoodG e s n g)(b:Bool):((tailB (partB e s n g) b).length:Int)≤szN e:=by
 obtain⟨h0,h1,h2,h3,h4⟩:=h;have hfl:=foot_len (Qpt (partB e s n g)) (Qor (partB e s n g).2.2);rw[Qos]at hfl;have hmm:=Qvl ((partB e s n g).2.2.length:Int) (by omega) (by have:=h2.2.1;omega);unfold tailB;rw[List.length_append]
 cases b with
 | true=>rw[if_pos rfl];omega
 | false=>rw[if_neg (by simp)];simp;omega
theorem seg_len{e s n:Int}(hG:Good e s){g:List Rec}(h:GoodG e s n g)(b:Bool):(segB e s n g b).length=(szN e).toNat:=by
 have h1:=tail_fit hG h b;unfold segB;rw[List.length_append,List.length_replicate];omega
theorem img_len{e s:Int}(hG:Good e s):∀(ps:List (List Rec)) (n:Int),AllG e s n ps→(imgP e s n ps).length=ps.length*(szN e).toNat
 | [],n,_=>by simp[imgP]
 | [g],n,h=>by simp[imgP,seg_len hG h.1]
 | g :: g2 :: t,n,h=>by
  have ih:=img_len hG (g2 :: t) (n+1) h.2;unfold imgP;rw[List.length_append,ih,seg_len hG h.1 true,List.length_cons (a:=g),Nat.add_mul,Nat.one_mul];omega
theorem part_frames(e s n:Int)(g:List Rec):(partB e s n g).2.1=Qnc e s n++g.flatMap Qwf:=fillB_frames e s n g _
theorem seal_bytes{b:List Int}(hb:Bytes b):Bytes (Qmx b):=by
 unfold Qmx;refine(Qxa _ _ (Nat.le_refl _) (hb.app (Qxg 8 _))).2.1.app ?_;intro y hy
 rcases List.mem_singleton.1 hy with rfl
 omega
theorem foot_bytes(u:Int)(l:List Ent):Bytes (Qpm u l):=by
 unfold Qpm;refine seal_bytes (Bytes.app (Bytes.app (Bytes.app (Bytes.app ?_ (Qxg 4 _)) (Qxg 4 _)) (Qxr _ Qxq l)) (Qxr _ (fun x=>Qxg 8 x) _));intro y hy
 rcases List.mem_singleton.1 hy with rfl
 omega
theorem head_bytes{e s n:Int}(he:0≤e∧e<256)(hs:0≤s∧s<4294967296)(hn:0≤n∧n<4294967296):Bytes (Qnc e s n):=by
 unfold Qnc;refine seal_bytes (Bytes.app (Bytes.app ?_ (Qxk s hs.1 (by omega))) (Qxk n hn.1 (by omega)));intro y hy;simp only[List.mem_cons,List.not_mem_nil,or_false]at hy;omega
theorem frames_bytes:∀ {g:List Rec},(∀r∈g,okR r)→Bytes (g.flatMap Qwf)
 | [],_=>fun y hy=>by cases hy
 | r :: g,h=>by
  rw[List.flatMap_cons];exact(seal_bytes (Qxo (h r (List.mem_cons_self ..)))).app (frames_bytes (fun x hx=>h x (List.mem_cons_of_mem _ hx)))
theorem rep_bytes(m:Nat):Bytes (List.replicate m 255):=fun x hx=>by have:=List.eq_of_mem_replicate hx;omega
theorem seg_bytes{e s n:Int}(hG:Good e s){g:List Rec}(h:GoodG e s n g)(hr:∀r∈g,okR r)(b:Bool):Bytes (segB e s n g b):=by
 obtain⟨g1,g2,g3,g4⟩:=hG;obtain⟨h0,h1,_⟩:=h;unfold segB tailB;rw[part_frames];refine Bytes.app (Bytes.app ((head_bytes (by omega) (by omega) (by omega)).app (frames_bytes hr)) ?_) (rep_bytes _);split
 ·exact foot_bytes _ _
 ·intro y hy;cases hy
theorem img_bytes{e s:Int}(hG:Good e s):∀(ps:List (List Rec)) (n:Int),AllG e s n ps→(∀g∈ps,∀r∈g,okR r)→Bytes (imgP e s n ps)
 | [],n,_,_=>fun y hy=>by cases hy
 | [g],n,h,hr=>seg_bytes hG h.1 (hr g (by simp)) false
 | g :: g2 :: t,n,h,hr=>(seg_bytes hG h.1 (hr g (by simp)) true).app (img_bytes hG (g2 :: t) (n+1) h.2 (fun x hx=>hr x (List.mem_cons_of_mem _ hx)))
end Go.Proofs.YteaocbonofboeaaGreat.CodecP
end
