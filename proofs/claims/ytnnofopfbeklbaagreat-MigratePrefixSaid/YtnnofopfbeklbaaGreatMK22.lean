/- Merged texts. -/
import Derived.Test.YtnnofopfbeklbaaGreatMK21
import Derived.Test.YtnnofopfbeklbaaGreatMK20
import Derived.Test.YtnnofopfbeklbaaGreatMK19
import Derived.Test.YtnnofopfbeklbaaGreatMK15
import Derived.Test.YtnnofopfbeklbaaGreatMK16
import Derived.Test.YtnnofopfbeklbaaGreatMK02
import Derived.Test.YtnnofopfbeklbaaGreatMK10
import Derived.Test.YtnnofopfbeklbaaGreatMK04
set_option linter.unusedVariables false
set_option linter.unusedSimpArgs false
set_option maxHeartbeats 8000000
set_option maxRecDepth 100000
section
namespace Go.Proofs.YtnnofopfbeklbaaGreat.CodecP
open Go.RowKit Go.Proofs.YtnnofopfbeklbaaGreat.C Go.Proofs.YtnnofopfbeklbaaGreatW.PrintWords Go.Proofs.YtnnofopfbeklbaaGreatW.PrintLast Go.Proofs.YtnnofopfbeklbaaGreatW.PrintMore
theorem stuff_most:∀(n:Nat) (b:List Int),b.length≤n→(Qmd b).length≤b.length+1+(b.length-1)/254
 | n,b,hn=>by
  rcases Int.lt_or_le (ixOf (b.take 254) 0) 0 with h0|h0
  ·by_cases hl:254<b.length
   ·rw[Qmh h0 hl]
    match n,hn with
    | 0,hn=>omega
    | n+1,hn =>
     have ih:=stuff_most n (b.drop 254) qq_19;rw[List.length_drop]at ih;rw[List.length_cons,List.length_append,List.length_take];omega
   ·rw[Qmi h0 hl,List.length_cons];omega
  ·obtain⟨p,hp⟩:=Int.eq_ofNat_of_zero_le h0;have h1:=(Qmb (b.take 254) 0).2;rw[List.length_take,hp]at h1;rw[Qmg hp]
   match n,hn with
   | 0,hn=>omega
   | n+1,hn =>
    have ih:=stuff_most n (b.drop (p+1)) qq_19;rw[List.length_drop]at ih;rw[List.length_cons,List.length_append,List.length_take];omega
theorem sealL_most(b:List Int):(Qqw b).length≤b.length+8+1+(b.length+8-1)/254+1:=by
 have h:=stuff_most _ (b++leb (Qnm 0 b) 8) (Nat.le_refl _);rw[List.length_append,Qld]at h;unfold Qqw;rw[List.length_append];simp;omega
theorem fence_len(l:List Ent):(Qrz l).length=(l.length+15)/16:=by simp[Qrz,chN]
theorem foot_len(u:Int)(l:List Ent):((Qtw u l).length:Int)≤Qxr (l.length:Int):=by
 have h:=sealL_most ([4]++leb l.length 4++leb u 4++l.flatMap ent++(Qrz l).flatMap (fun x=>leb x 8));have h2:=Qub (l.length:Int) u l;rw[List.nil_append]at h2;rw[h2,fence_len]at h;unfold Qtw Qxr;obtain⟨c,hc⟩:∃c,c=(l.length+15)/16:=⟨_,rfl⟩;have hcI:((l.length:Int)+15)/16=(c:Int):=by omega
 rw[hcI];rw[← hc]at h;clear hc hcI h2;obtain⟨g,hg⟩:∃g,g=(9+12*l.length+8*c+8-1)/254:=⟨_,rfl⟩;have hgI:(9+12*(l.length:Int)+8*(c:Int)+8-1)/254=(g:Int):=by omega
 rw[hgI];rw[← hg]at h;clear hg hgI;omega
theorem le_trans_E(x y z:Ent)(h1:(!(ltOf cfE) y x)=true)(h2:(!(ltOf cfE) z y)=true):(!(ltOf cfE) z x)=true:=by
 rw[Qtd]at *;simp at *;omega
theorem le_total_E(x y:Ent):((!(ltOf cfE) y x) ||(!(ltOf cfE) x y))=true:=by
 rw[Qtd,Qtd];simp;omega
theorem sortE_pair(l:List Ent):(Qtb l).Pairwise (fun x y=>(!(ltOf cfE) y x)=true):=List.pairwise_mergeSort le_trans_E le_total_E l
theorem rising_of:∀(l:List Ent),l.Pairwise (fun x y=>(!(ltOf cfE) y x)=true)→l.Nodup→Qto l=true
 | [],_,_=>rfl
 | [_],_,_=>rfl
 | a :: b :: t,hp,hn=>by
  have hp2:=List.pairwise_cons.1 hp;have hn2:=List.pairwise_cons.1 hn;have ih:=rising_of (b :: t) hp2.2 hn2.2;have h1:=hp2.1 b (by simp);have h2:=hn2.1 b (by simp);have h3:ltOf cfE a b=true:=by
   cases h:ltOf cfE a b with
   | true=>rfl
   | false=>exact absurd (totE a b h (by simpa using h1)) h2
  unfold Qto ltE;rw[ih]
  simpa [ltOf]using h3
theorem sort_rising{l:List Ent}(h:l.Nodup):Qto (Qtb l)=true:=rising_of _ (sortE_pair l) ((Qtl l).nodup_iff.2 h)
def okB(e s n:Int)(i:Nat)(B:Bd):Prop :=
 B.1=(e,s,n,(B.2.1.length:Int),(B.2.2.length:Int))∧B.2.2.length≤i∧(∀x∈B.2.2,wfE x∧x.f1<(B.2.1.length:Int))∧B.2.2.Pairwise (fun x y=>x.f1<y.f1)∧(B.2.1.length:Int)≤16777216
def putB(e s n:Int)(B:Bd)(r:Rec):Bd :=
 ((e,s,n,((B.2.1++frameL r).length:Int),((B.2.2.length+1:Nat):Int)),B.2.1++frameL r,B.2.2++[⟨Qnm 0 (bytesOf r.f2),(B.2.1.length:Int)%4294967296⟩])
def freshB(e s n:Int):Bd:=((e,s,n,Qxn e s n,0),Qrb e s n,[])
theorem new_good{e s:Int}(h:Good e s)(n:Int)(h0:0≤n)(h1:n<s):newB e s n=some (freshB e s n):=by
 unfold newB;rw[Qyj h n h0 h1,Option.bind_some,Qyi h n h0 h1,Option.bind_some];simp[freshB]
theorem Qfr(e s n:Int)(i:Nat):okB e s n i (freshB e s n):=by
 have:=Qxp e s n;refine⟨by simp[freshB,Qxn],by simp[freshB],by simp[freshB],by simp[freshB],?_⟩;unfold Qxn at this;simp only[freshB];omega
theorem large_no{e s:Int}(h:Good e s){x:Int}(hx1:x≤1152921504606846976)(hf:Qyc e (Qxn e s (s-1)) 0 x=true):Qde.f e s x=some false:=by
 have hr:=Qxp e s (s-1);have hg:=h;obtain⟨g1,g2,g3,g4⟩:=hg;unfold Qde.f;rw[show(s-1)%4294967296=s-1 by omega,Qyj h (s-1) (by omega) (by omega),Option.bind_some];dsimp only;rw[if_pos rfl,Qyd h _ _ _ _ (by omega) (by omega) (by omega) (by omega) hx1,hf];rfl
theorem add_good{e s n:Int}(h:Good e s){i:Nat}{B:Bd}{r:Rec}(hB:okB e s n i B)(hi:i≤1000000)(hc:chkR r=0)(hw:0≤r.f1∧r.f1<18446744073709551616)
  (hl:Qyc e (Qxn e s (s-1)) 0 (fsz r)=true) (hf:Qyc e (B.2.1.length:Int) (B.2.2.length:Int) (fsz r)=true) :
  addB B r=some (putB e s n B r)∧okB e s n (i+1) (putB e s n B r)∧((putB e s n B r).2.1.length:Int)+Qxr ((putB e s n B r).2.2.length:Int)≤szN e∧(putB e s n B r).2.2≠[]:=by
 obtain⟨b1,b2,b3,b4,b5⟩:=hB;have hx:=fsz_range r hc;have hft:=Qyf hf;have hsz:=Qxv h.1 h.2.1;have hm:=Qyb ((B.2.2.length:Int)+1) (by omega) (by omega);have hlen:((B.2.1++frameL r).length:Int)=(B.2.1.length:Int)+fsz r:=by rw[List.length_append];unfold fsz;omega
 have hh:=Qqv 0 (bytesOf r.f2);have hmod:(B.2.1.length:Int)%4294967296=(B.2.1.length:Int):=by omega
 refine⟨?_,⟨?_,?_,?_,?_,?_⟩,?_,?_⟩
 ·unfold addB;rw[if_pos (show chk r.f0 r.f2 r.f3=0 from hc),put_good r hc hw.1 hw.2,Option.bind_some,b1];dsimp only;rw[show((frameL r).length:Int)=fsz r from rfl,large_no h (by omega) hl,Option.bind_some,Qyg h n _ _ _ (by omega) (by omega) (by omega) (by omega) (by omega) hf,Option.bind_some];dsimp only;rw[if_pos ⟨rfl,rfl,rfl,by have hfz:((frameL r).length:Int)=fsz r:=rfl;omega,by omega⟩];unfold putB;rw[hlen];simp
 ·simp[putB]
 ·simp only[putB,List.length_append,List.length_cons,List.length_nil];omega
 ·intro x hxm;simp only[putB]at hxm ⊢;rw[hlen]
  rcases List.mem_append.1 hxm with hm' | hm'
  ·have:=b3 x hm';exact⟨this.1,by omega⟩
  ·simp only[List.mem_singleton]at hm';subst hm';rw[hmod];exact⟨⟨hh,(show(0:Int)≤(B.2.1.length:Int)by omega),(show(B.2.1.length:Int)<4294967296 by omega)⟩,by dsimp only;omega⟩
 ·simp only[putB];rw[List.pairwise_append];refine⟨b4,by simp,?_⟩;intro x hx y hy;simp only[List.mem_singleton]at hy;subst hy;rw[hmod];exact(b3 x hx).2
 ·simp only[putB];rw[hlen];omega
 ·simp only[putB];rw[hlen,List.length_append];simp only[List.length_cons,List.length_nil];have:(((B.2.2.length+(0+1):Nat)):Int)=(B.2.2.length:Int)+1:=by omega
  rw[this];omega
 ·simp[putB]
theorem any_sort(u:Int){l:List Ent}(h:∀x∈l,x.f1<u):(Qtb l).any (fun x=>decide (u≤x.f1))=false:=by
 rw[List.any_eq_false];intro x hx;have:=h x ((Qtl l).mem_iff.1 hx);simp;omega
theorem pair_nodup{l:List Ent}(h:l.Pairwise (fun x y=>x.f1<y.f1)):l.Nodup:=h.imp (fun {a b} hab he=>by subst he;omega)
theorem seal_good{e s n:Int}(h:Good e s){i:Nat}{B:Bd}(hB:okB e s n i B)(hi:i≤1000000)(hne:B.2.2≠[])(hr:(B.2.1.length:Int)+Qxr (B.2.2.length:Int)≤szN e) :
  ∃o,Que B=some o∧o.length=(szN e).toNat∧B.2.1 <+: o:=by
 obtain⟨b1,b2,b3,b4,b5⟩:=hB;have hsz:=Qxv h.1 h.2.1;have hu:Qud B=(B.2.1.length:Int):=by unfold Qud;omega
 have hfl:=foot_len (Qud B) (Qtb B.2.2);rw[Qtc]at hfl;have hn0:B.2.2.length≠0:=fun he=>hne (List.eq_nil_of_length_eq_zero he)
 have hck:Qtt (Qud B) (Qtb B.2.2)=0:=by
  unfold Qtt;rw[Qtc,if_neg hn0,if_neg (by omega),sort_rising (pair_nodup b4),if_neg (by simp),any_sort _ (fun x hx=>by rw[hu];exact(b3 x hx).2),if_neg (by simp)]
 unfold Que;rw[b1];dsimp only;rw[Qxw h,Option.bind_some,if_pos ⟨hn0,by omega,fun x hx=>(b3 x hx).1,hck,by omega,by omega⟩];refine⟨_,rfl,?_,?_⟩
 ·rw[List.length_append,List.length_replicate,List.length_append];omega
 ·rw[List.append_assoc];exact List.prefix_append _ _
theorem open_good{e s n:Int}(h:Good e s){i:Nat}{B:Bd}(hB:okB e s n i B)(hr:(B.2.1.length:Int)≤szN e) :
  ∃o,Quf B=some o∧o.length=(szN e).toNat∧B.2.1 <+: o:=by
 obtain⟨b1,b2,b3,b4,b5⟩:=hB;have hsz:=Qxv h.1 h.2.1;unfold Quf;rw[b1];dsimp only;rw[Qxw h,Option.bind_some,if_pos ⟨by omega,by omega⟩];refine⟨_,rfl,?_,List.prefix_append _ _⟩;rw[List.length_append,List.length_replicate];omega
theorem planP_pre(e s:Int):∀(l out:List Int) (n u c:Int),(Qym e s l out n u c).2=0→out <+: (Qym e s l out n u c).1
 | [],out,n,u,c,h=>by unfold Qym;exact List.prefix_rfl
 | x :: t,out,n,u,c,h=>by
  unfold Qym at h ⊢
  by_cases hf:Qyc e (Qxn e s (s-1)) 0 x=false
  ·rw[if_pos hf]at h;cases h
  ·rw[if_neg hf]at h ⊢
   by_cases hq:Qyc e u c x=true
   ·rw[if_pos hq]at h ⊢;exact(List.prefix_append _ _).trans (planP_pre e s t _ _ _ _ h)
   ·rw[if_neg hq]at h ⊢
    by_cases hs:n+1<s
    ·rw[if_pos hs]at h ⊢;exact(List.prefix_append _ _).trans (planP_pre e s t _ _ _ _ h)
    ·rw[if_neg hs]at h;cases h
theorem pre_at{into:List Int}{i:Nat}{x:Int}(h:into.take i++[x] <+: into)(hi:i<into.length):rd into (i:Int)=x∧into.take (i+1)=into.take i++[x]:=by
 obtain⟨t,ht⟩:=h;have h1:=congrArg (fun l=>l[i]?) ht;have h2:(into.take i).length=i:=by rw[List.length_take];omega
 have h3:(into.take i++[x]++t)[i]? = some x:=by
  rw[List.append_assoc,List.getElem?_append_right (by omega),h2,Nat.sub_self];rfl
 rw[h3]at h1;refine⟨?_,?_⟩
 ·rw[Qoo hi];have h4:=List.getElem?_eq_getElem hi;rw[← h1]at h4;exact(Option.some.inj h4).symm
 ·rw[List.take_add_one,← h1];rfl
def PP(e:Int)(fin:List Int)(last:Int)(p:Plc)(r:Rec):Prop :=
 0≤p.f0∧p.f0≤last∧0≤p.f1∧p.f1≤16777216∧p.f0.toNat*(szN e).toNat+p.f1.toNat+(frameL r).length≤fin.length∧(fin.drop (p.f0.toNat*(szN e).toNat+p.f1.toNat)).take (frameL r).length=frameL r
def Placed(P:Plc→Rec→Prop):List Plc→List Rec→Prop
 | [],[]=>True
 | p :: ps,r :: rs=>P p r∧Placed P ps rs
 | _,_=>False
theorem pre_part{a b fin:List Int}(h:(a++b) <+: fin):a.length+b.length≤fin.length∧(fin.drop a.length).take b.length=b:=by
 obtain⟨t,rfl⟩:=h;refine⟨by simp,?_⟩;rw[List.append_assoc,List.drop_left,List.take_left]
theorem room_lim{e s n:Int}(h:Good e s)(h1:n<s):n.toNat*(szN e).toNat+(szN e).toNat≤lim:=by
 have hsz:=Qxv h.1 h.2.1;obtain⟨g1,g2,g3,g4⟩:=h;have:(n.toNat+1)*(szN e).toNat≤65536*16777216:=Nat.mul_le_mul (by omega) (by omega);rw[Nat.add_mul,Nat.one_mul]at this;unfold lim;omega
theorem enc_run{e s:Int}(hG:Good e s)(l:List Rec)(into:List Int)(hl:l.length≤1000000)(hw:Wf l)(hc:chkL l=0)(hil:into.length=l.length) :
  ∀(d i:Nat) (out:List Int) (n:Int) (B:Bd),i+d=l.length→1≤i→okB e s n i B→B.2.2≠[]→(B.2.1.length:Int)+Qxr (B.2.2.length:Int)≤szN e→0≤n→n<s→out.length=n.toNat*(szN e).toNat→rd into ((i:Int)-1)=n →
  Qym e s ((l.drop i).map fsz) (into.take i) n (B.2.1.length:Int) (B.2.2.length:Int)=(into,0) →
  ∃fin,encG e s into i (l.drop i) out (some B)=some fin∧(out++B.2.1) <+: fin∧n≤rd into ((into.length:Int)-1)∧rd into ((into.length:Int)-1)<s∧fin.length=((rd into ((into.length:Int)-1)).toNat+1)*(szN e).toNat ∧
   Placed (PP e fin (rd into ((into.length:Int)-1))) (placeL e s (some n) (B.2.1.length:Int) (into.drop i) ((l.drop i).map fsz)) (l.drop i):=by
 have hsz:=Qxv hG.1 hG.2.1;intro d
 induction d with
 | zero =>
  intro i out n B hd hi hB hne hr h0 h1 ho hprev hp;have hi':i=into.length:=by omega
  have hmm:=Qyb (B.2.2.length:Int) (by omega) (by have:=hB.2.1;omega);obtain⟨o,e1,e2,t,e3⟩:=open_good hG hB (by omega);have hlim:=room_lim hG h1;rw[← hi',hprev,List.drop_of_length_le (by omega),List.drop_of_length_le (by omega)];refine⟨out++o,?_,?_,Int.le_refl _,h1,?_,?_⟩
  ·unfold encG;rw[e1,Option.bind_some,if_pos (by omega)]
  ·rw[← e3,← List.append_assoc];exact List.prefix_append _ _
  ·rw[List.length_append,ho,e2,Nat.add_mul,Nat.one_mul]
  ·simp[placeL,Placed]
 | succ d ihd =>
  intro i out n B hd hi hB hne hr h0 h1 ho hprev hp;have hlt:i<l.length:=by omega
  have hlt2:i<into.length:=by omega
  have hcr:chkR l[i]=0:=Qyu hc _ (List.getElem_mem hlt);have hwr:=hw l[i] (List.getElem_mem hlt);have hx:=fsz_range l[i] hcr;have hlen:∀q:List Int,((q++frameL l[i]).length:Int)=(q.length:Int)+fsz l[i]:=fun q=>by rw[List.length_append];unfold fsz;omega
  have hiB:=hB.2.1;have hb5:=hB.2.2.2.2;rw[List.drop_eq_getElem_cons hlt,List.map_cons]at hp ⊢;unfold Qym at hp
  by_cases hf:Qyc e (Qxn e s (s-1)) 0 (fsz l[i])=false
  ·rw[if_pos hf]at hp;cases hp
  ·rw [if_neg hf]at hp;have hft:Qyc e (Qxn e s (s-1)) 0 (fsz l[i])=true:=by simpa using hf
   by_cases hq:Qyc e (B.2.1.length:Int) (B.2.2.length:Int) (fsz l[i])=true
   ·rw[if_pos hq]at hp;obtain⟨q1,q2⟩:=pre_at qq_17 hlt2;obtain⟨a1,a2,a3,a4⟩:=add_good hG hB (by omega) hcr hwr hft hq;have hlB:((putB e s n B l[i]).2.1.length:Int)=(B.2.1.length:Int)+fsz l[i]:=hlen _;have hlT:((putB e s n B l[i]).2.2.length:Int)=(B.2.2.length:Int)+1:=by simp[putB]
    rw[← q2,← hlB,← hlT]at hp;obtain⟨fin,f1,f2,f3,f4,f5,f6⟩:=ihd (i+1) out n (putB e s n B l[i]) (by omega) (by omega) a2 a4 a3 h0 h1 ho (by rw[show((i+1:Nat):Int)-1=(i:Int)by omega];exact q1) hp;have hfp:(out++B.2.1)++frameL l[i] <+: fin:=by rw[List.append_assoc];exact f2
    refine⟨fin,?_,(List.prefix_append _ _).trans hfp,f3,f4,f5,?_⟩
    ·rw[encG,if_pos hlt2];rw[if_neg (by omega),if_pos (q1.trans hprev.symm),a1,Option.bind_some];exact f1
    ·rw[Qyo hlt2,q1,placeL,if_pos rfl];refine⟨?_,by rw[hlB]at f6;exact f6⟩;have hpp:=pre_part hfp;rw[List.length_append,ho]at hpp;have hmod:(B.2.1.length:Int)%4294967296=(B.2.1.length:Int):=by omega
     rw[hmod];exact⟨h0,f3,(show(0:Int)≤(B.2.1.length:Int)by omega),(show(B.2.1.length:Int)≤16777216 by omega),hpp.1,hpp.2⟩
   ·rw[if_neg hq]at hp
    by_cases hs:n+1<s
    ·rw[if_pos hs]at hp;obtain⟨q1,q2⟩:=pre_at qq_17 hlt2;obtain⟨o,e1,e2,t,e3⟩:=seal_good hG hB (by omega) hne hr;have hhd:=Qxp e s (n+1);have hfr:((freshB e s (n+1)).2.1.length:Int)=Qxn e s (n+1):=rfl;have hfit:Qyc e ((freshB e s (n+1)).2.1.length:Int) ((freshB e s (n+1)).2.2.length:Int) (fsz l[i])=true:=Qyn hG (by omega) (by omega) hft;obtain⟨a1,a2,a3,a4⟩:=add_good hG (Qfr e s (n+1) i) (by omega) hcr hwr hft hfit;have hlB:((putB e s (n+1) (freshB e s (n+1)) l[i]).2.1.length:Int)=Qxn e s (n+1)+fsz l[i]:=hlen _;have hlT:((putB e s (n+1) (freshB e s (n+1)) l[i]).2.2.length:Int)=1:=by simp[putB,freshB]
     rw[← q2,← hlB,← hlT]at hp;have hlim:=room_lim hG h1;have hoo:(out++o).length=(n+1).toNat*(szN e).toNat:=by
      rw[List.length_append,ho,e2,show(n+1).toNat=n.toNat+1 by omega,Nat.add_mul,Nat.one_mul]
     obtain⟨fin,f1,f2,f3,f4,f5,f6⟩:=ihd (i+1) (out++o) (n+1) _ (by omega) (by omega) a2 a4 a3 (by omega) hs hoo (by rw[show((i+1:Nat):Int)-1=(i:Int)by omega];exact q1) hp;have hfp:((out++o)++Qrb e s (n+1))++frameL l[i] <+: fin:=by rw[List.append_assoc];exact f2
     refine⟨fin,?_,?_,by omega,f4,f5,?_⟩
     ·rw[encG,if_pos hlt2];rw[if_neg (by omega),if_neg (by rw[q1,hprev];omega),e1,Option.bind_some,if_pos (by omega),q1,new_good hG (n+1) (by omega) hs,Option.bind_some,a1,Option.bind_some];exact f1
     ·refine List.IsPrefix.trans ?_ f2;rw[← e3,List.append_assoc,List.append_assoc,← List.append_assoc out];exact List.prefix_append _ _
     ·rw[Qyo hlt2,q1,placeL,if_neg qq_23];refine⟨?_,by rw[hlB]at f6;exact f6⟩;have hpp:=pre_part hfp;rw[List.length_append,hoo]at hpp;have hhl:((Qrb e s (n+1)).length:Int)=Qxn e s (n+1):=rfl;have hmod:Qxn e s (n+1)%4294967296=((Qrb e s (n+1)).length:Int):=by omega
      rw[hmod];exact⟨(show(0:Int)≤n+1 by omega),f3,(show(0:Int)≤((Qrb e s (n+1)).length:Int)by omega),(show((Qrb e s (n+1)).length:Int)≤16777216 by omega),hpp.1,hpp.2⟩
    ·rw[if_neg hs]at hp;cases hp
theorem enc_zero{e s:Int}(hG:Good e s)(l:List Rec)(into:List Int)(hl:l.length≤1000000)(hw:Wf l)(hc:chkL l=0)(hil:into.length=l.length)(hne:l.length≠0)
  (hp:Qym e s (l.map fsz) [] 0 (Qxn e s 0) 0=(into,0)) :
  ∃fin,encG e s into 0 l [] none=some fin∧rd into ((into.length:Int)-1)<s∧0≤rd into ((into.length:Int)-1)∧fin.length=((rd into ((into.length:Int)-1)).toNat+1)*(szN e).toNat ∧
   Placed (PP e fin (rd into ((into.length:Int)-1))) (placeL e s none 0 into (l.map fsz)) l:=by
 have hs0:=hG.2.2.1;have hlt:0<l.length:=by omega
 have hlt2:0<into.length:=by omega
 have hcr:chkR l[0]=0:=Qyu hc _ (List.getElem_mem hlt);have hwr:=hw l[0] (List.getElem_mem hlt);have hx:=fsz_range l[0] hcr;have hlen:∀q:List Int,((q++frameL l[0]).length:Int)=(q.length:Int)+fsz l[0]:=fun q=>by rw[List.length_append];unfold fsz;omega
 have hd:l=l[0] :: l.drop 1:=by
  have:=List.drop_eq_getElem_cons hlt;rw[List.drop_zero]at this;exact this
 have hdm:l.map fsz=fsz l[0] :: (l.drop 1).map fsz:=by
  rw[← List.map_cons,← hd]
 rw[hdm]at hp ⊢;unfold Qym at hp
 by_cases hf:Qyc e (Qxn e s (s-1)) 0 (fsz l[0])=false
 ·rw[if_pos hf]at hp;cases hp
 ·rw [if_neg hf]at hp;have hft:Qyc e (Qxn e s (s-1)) 0 (fsz l[0])=true:=by simpa using hf
  have hfit0:=Qyn hG (n:=0) (by omega) (by omega) hft;rw[if_pos hfit0]at hp;obtain⟨q1,q2⟩:=pre_at (i:=0) (x:=0) qq_17 hlt2;have a:rd into 0=0:=q1;have hfr:((freshB e s 0).2.1.length:Int)=Qxn e s 0:=rfl;have hhd:=Qxp e s 0;obtain⟨a1,a2,a3,a4⟩:=add_good hG (Qfr e s 0 0) (by omega) hcr hwr hft hfit0;have hlB:((putB e s 0 (freshB e s 0) l[0]).2.1.length:Int)=Qxn e s 0+fsz l[0]:=hlen _;have hlT:((putB e s 0 (freshB e s 0) l[0]).2.2.length:Int)=1:=by simp[putB,freshB]
  have hp':Qym e s ((l.drop 1).map fsz) (into.take 1) 0 ((putB e s 0 (freshB e s 0) l[0]).2.1.length:Int) ((putB e s 0 (freshB e s 0) l[0]).2.2.length:Int)=(into,0):=by
   rw[hlB,hlT,q2];exact hp
  obtain⟨fin,f1,f2,f3,f4,f5,f6⟩:=enc_run hG l into hl hw hc hil (l.length-1) 1 [] 0 _ (by omega) (by omega) a2 a4 a3 (by omega) (by omega) (by simp) a hp';have hfp:Qrb e s 0++frameL l[0] <+: fin:=f2;refine⟨fin,?_,f4,f3,f5,?_⟩
  ·have:encG e s into 0 (l[0] :: l.drop 1) [] none=some fin:=by
    rw[encG,if_pos hlt2];rw[if_pos rfl,q1,new_good hG 0 (by omega) (by omega),Option.bind_some,a1,Option.bind_some];exact f1
   rw[← hd]at this;exact this
  ·have hdi:into=0 :: into.drop 1:=by
    have:=Qyo hlt2;rw[List.drop_zero,q1]at this;exact this
   have goal:Placed (PP e fin (rd into ((into.length:Int)-1))) (placeL e s none 0 (0 :: into.drop 1) (fsz l[0] :: (l.drop 1).map fsz)) (l[0] :: l.drop 1):=by
    rw[placeL,if_neg (by simp)];refine⟨?_,by rw[hlB]at f6;exact f6⟩;have hpp:=pre_part hfp;have hhl:((Qrb e s 0).length:Int)=Qxn e s 0:=rfl;have hmod:Qxn e s 0%4294967296=((Qrb e s 0).length:Int):=by omega
    rw[hmod];refine⟨(show(0:Int)≤0 by omega),f3,(show(0:Int)≤((Qrb e s 0).length:Int)by omega),(show((Qrb e s 0).length:Int)≤16777216 by omega),?_,?_⟩
    ·have:=hpp.1
     simpa using this
    ·have:=hpp.2
     simpa using this
   rw[← hdi,← hd]at goal;exact goal
theorem encode_ok(e s:Int)(l:List Rec)(k:Nat)(hl:l.length≤1000000)(hw:Wf l)(hk:2*l.length+10≤k)(h:(planSpec e s l).2.2=0) :
  ∃fin,Qcu.f k e s l=some (fin,0)∧0≤lastSeg (planS e s l).1∧lastSeg (planS e s l).1≤65536∧fin.length=(lastSeg (planS e s l).1).toNat*(szN e).toNat ∧
   Placed (PP e fin (lastSeg (planS e s l).1-1)) (placeL e s none 0 (planS e s l).1 (l.map fsz)) l:=by
 obtain⟨hg,hr,h2,h3,h4,h5⟩:=plan_parts h hl;have hs:=hg.2.2.2;unfold Qcu.f;rw[plan_is e s l k hl hw hk,Option.bind_some,if_pos h,if_pos (by omega),h3];dsimp only
 by_cases h0:l.length=0
 ·have hl0:l=[]:=List.eq_nil_of_length_eq_zero h0;subst hl0;refine⟨[],?_,?_⟩
  ·simp[encG]
  ·have:(planS e s []).1=[]:=rfl;rw[this];simp[lastSeg,placeL,Placed]
 ·obtain⟨fin,f1,f2,f3,f4,f5⟩:=enc_zero hg l (planS e s l).1 hl hw (risL_chk hr) h4 h0 (by
   have:Qym e s (l.map fsz) [] 0 (Qxn e s 0) 0=planS e s l:=rfl;rw[this,← h2])
  have hls:lastSeg (planS e s l).1=rd (planS e s l).1 (((planS e s l).1.length:Int)-1)+1:=by
   unfold lastSeg;rw[if_neg (by omega)];omega
  refine⟨fin,by rw[f1];rfl,by omega,by omega,?_,?_⟩
  ·rw[hls,f4]
   congr 1
   omega
  ·rw[hls,Int.add_sub_cancel];exact f5
theorem encode_bad(e s:Int)(l:List Rec)(k:Nat)(hl:l.length≤1000000)(hw:Wf l)(hk:2*l.length+10≤k)(h:(planSpec e s l).2.2≠0):Qcu.f k e s l=some ([],(planSpec e s l).2.2):=by
 unfold Qcu.f;rw[plan_is e s l k hl hw hk,Option.bind_some,if_neg h]
theorem size_nums(l:List Int):(strOfNums l).size=l.length:=by
 exact strOfNums_size l
def okP(p:Pr):Prop:=1≤p.f0.size∧p.f0.size≤4096∧p.f1.size≤1048576
def szP(p:Pr):Nat:=p.f0.size+p.f1.size+12
theorem one_ok{bs:List Int}(hb:Bytes bs){i j:Nat}{p:Pr}(h:oneL bs i=.ok (p,j)):okP p∧j=i+szP p∧j≤bs.length:=by
 unfold oneL at h;split at h
 ·cases h
 rename_i h8;have hk:=leI_range ((hb.drop i).take 4);have hv:=leI_range ((hb.drop (i+4)).take 4);generalize leI ((bs.drop i).take 4)=k at *;generalize leI ((bs.drop (i+4)).take 4)=v at *;dsimp only at h;split at h
 ·cases h
 split at h
 ·cases h
 split at h
 ·cases h
 split at h
 ·simp only[Except.ok.injEq,Prod.mk.injEq]at h;obtain⟨rfl,rfl⟩:=h;unfold okP szP;simp only[size_nums,List.length_take,List.length_drop];omega
 ·cases h
theorem one_er{bs:List Int}{i:Nat}{er at_:Int}(h:oneL bs i=.error (er,at_)):er=2∨er=3∨er=4∨er=5:=by
 unfold oneL at h;dsimp only at h
 repeat' split at h
 all_goals first |(cases h;simp)|cases h
def sumP':List Pr→Nat
 | []=>0
 | p :: t=>szP p+sumP' t
theorem all_spec{bs:List Int}(hb:Bytes bs):∀(f i:Nat) (acc ps:List Pr) (j er:Int),i≤bs.length→allL bs f i acc=(ps,j,er)→bs.length<i+f →
  ∃more,ps=acc++more∧j=((i+sumP' more:Nat):Int)∧i+sumP' more≤bs.length∧(∀p∈more,okP p)∧(er=0∨er=2∨er=3∨er=4∨er=5)∧(er=0→i+sumP' more=bs.length)
 | 0,i,acc,ps,j,er,hi,h,hf=>by omega
 | f + 1,i,acc,ps,j,er,hi,h,hf=>by
  unfold allL at h;split at h
  ·rename_i hlt
   cases h1:oneL bs i with
   | error q =>
    obtain⟨e1,a1⟩:=q;rw[h1]at h;simp only[Prod.mk.injEq]at h;obtain⟨rfl,rfl,rfl⟩:=h;have:=one_er h1;exact⟨[],by simp,by simp[sumP'],by simpa [sumP']using hi,by simp,by omega,by omega⟩
   | ok q =>
    obtain⟨p,j1⟩:=q;rw[h1]at h;obtain⟨h2,h3,h4⟩:=one_ok hb h1;have hsz:12≤szP p:=by unfold szP;omega
    obtain⟨more,e1,e2,e3,e4,e5,e6⟩:=all_spec hb f j1 (acc++[p]) ps j er h4 h (by omega);refine⟨p :: more,by rw[e1];simp,?_,?_,?_,e5,?_⟩
    ·rw[e2,h3];simp only[sumP'];congr 1;omega
    ·simp only[sumP'];omega
    ·intro q hq
     rcases List.mem_cons.1 hq with rfl|hq
     ·exact h2
     ·exact e4 q hq
    ·intro h0;have:=e6 h0;simp only[sumP'];omega
  ·simp only[Prod.mk.injEq]at h;obtain⟨rfl,rfl,rfl⟩:=h;exact⟨[],by simp,by simp[sumP'],by simpa [sumP']using hi,by simp,by simp,by simp[sumP'];omega⟩
theorem sum_least:∀ {ps:List Pr},(∀p∈ps,okP p)→13*ps.length≤sumP' ps
 | [],_=>by simp[sumP']
 | p :: t,h=>by
  have h1:=h p (List.mem_cons_self ..);have h2:=sum_least (fun q hq=>h q (List.mem_cons_of_mem _ hq));simp only[sumP',List.length_cons];unfold okP at h1;unfold szP;omega
def recsL(n:Nat):List Pr→List Rec
 | []=>[]
 | p :: t=>⟨false,(n:Int),p.f0,p.f1⟩ :: recsL (n+1) t
theorem recsL_length:∀(n:Nat) (ps:List Pr),(recsL n ps).length=ps.length
 | _,[]=>rfl
 | n,p :: t=>by simp only[recsL,List.length_cons,recsL_length (n+1) t]
theorem chk_ok{p:Pr}(h:okP p):chk false p.f0 p.f1=0:=by
 unfold okP at h;have hne:p.f0.toList≠[]:=by
  intro h0;have:=(Qwy p.f0).1 h0;omega
 unfold chk;rw[if_neg hne,if_neg (by omega),if_neg (by simp),if_neg (by omega)]
theorem recs_chk:∀(n:Nat) {ps:List Pr},(∀p∈ps,okP p)→chkL (recsL n ps)=0
 | _,[],_=>rfl
 | n,p :: t,h=>by
  have h1:chkR ⟨false,(n:Int),p.f0,p.f1⟩=0:=chk_ok (h p (List.mem_cons_self ..));have h2:=recs_chk (n+1) (ps:=t) (fun q hq=>h q (List.mem_cons_of_mem _ hq));show chkL (_ :: recsL (n+1) t)=0;unfold chkL;simp[h1,h2]
theorem recs_ord:∀(n:Nat) (ps:List Pr),ordL (recsL n ps)=0
 | _,[]=>rfl
 | _,[p]=>rfl
 | n,p :: q :: t=>by
  have h2:=recs_ord (n+1) (q :: t);show ordL (_ :: _ :: recsL (n+2) t)=0;have h3:ordL ((⟨false,((n+1:Nat):Int),q.f0,q.f1⟩:Rec) :: recsL (n+2) t)=0:=h2;unfold ordL;simp only;rw[if_neg (by omega)];exact h3
theorem recs_ris(n:Nat){ps:List Pr}(h:∀p∈ps,okP p):risL (recsL n ps)=0:=by
 unfold risL;rw[if_pos (recs_chk n h),recs_ord]
theorem recs_wf:∀(n:Nat) (ps:List Pr),n+ps.length<18446744073709551616→Wf (recsL n ps)
 | _,[],_=>by simp[recsL,Wf]
 | n,p :: t,h=>by
  simp only[List.length_cons]at h;intro r hr
  rcases List.mem_cons.1 (show r∈_ :: recsL (n+1) t from hr)with rfl|hr
  ·dsimp only;omega
  ·exact recs_wf (n+1) t (by omega) r hr
theorem fsz_few(n:Nat)(p:Pr)(hs:szP p≤600):1≤fsz ⟨false,(n:Int),p.f0,p.f1⟩∧fsz ⟨false,(n:Int),p.f0,p.f1⟩≤(szP p:Int)+31:=by
 unfold fsz frameL;have h1:=sealL_len (Qqr false (n:Int) p.f0 p.f1);have h2:=sealL_most (Qqr false (n:Int) p.f0 p.f1);have h3:=bodyL_len false (n:Int) p.f0 p.f1;unfold szP at *;dsimp only;omega
theorem most_few{c:Int}(h0:0≤c)(h1:c≤46):Qxr c≤700:=by
 unfold Qxr;omega
theorem plan_few{e s:Int}(hG:Good e s):∀(ps:List Pr) (n:Nat) (out:List Int) (u c:Int),(∀p∈ps,okP p)→0≤c→0≤u→u+(sumP' ps:Int)+31*ps.length≤2200→c+(ps.length:Int)≤46→sumP' ps≤600 →
  (Qym e s ((recsL n ps).map fsz) out 0 u c).2=0
 | [],n,out,u,c,_,_,_,_,_,_=>rfl
 | p :: t,n,out,u,c,hp,hc,hu,hs,hl,h6=>by
  have hz:=Qxv hG.1 hG.2.1;simp only[sumP',List.length_cons]at hs hl h6;have hx:=fsz_few n p (by omega);have hh:=Qxp e s (s-1);show(Qym e s (fsz _ :: (recsL (n+1) t).map fsz) out 0 u c).2=0;generalize fsz ⟨false,(n:Int),p.f0,p.f1⟩=x at *;unfold Qym;have m1:=most_few (c:=0+1) (by omega) (by omega);have m2:=most_few (c:=c+1) (by omega) (by omega);have f1:Qyc e (Qxn e s (s-1)) 0 x=true:=by
   simp only[Qyc,decide_eq_true_eq];omega
  have f2:Qyc e u c x=true:=by
   simp only[Qyc,decide_eq_true_eq];omega
  rw[if_neg (by rw[f1];decide),if_pos f2];exact plan_few hG t (n+1) _ _ _ (fun q hq=>hp q (List.mem_cons_of_mem _ hq)) (by omega) (by omega) (by omega) (by omega) (by omega)
theorem spec_few{e s:Int}(hG:Good e s){ps:List Pr}(hp:∀p∈ps,okP p)(h6:sumP' ps≤600):(planSpec e s (recsL 1 ps)).2.2=0:=by
 have hl:=sum_least hp;have hh:=Qxp e s 0;unfold planSpec;rw[if_pos (show 12≤e∧e≤24∧1≤s∧s≤65536 from hG),if_pos (recs_ris 1 hp)];exact plan_few hG ps 1 [] _ 0 hp (by omega) (by omega) (by omega) (by omega) h6
theorem recsL_snoc:∀(n:Nat) (a:List Pr) (p:Pr),recsL n (a++[p])=recsL n a++[⟨false,((n+a.length:Nat):Int),p.f0,p.f1⟩]
 | n,[],p=>rfl
 | n,q :: t,p=>by
  show _ :: recsL (n+1) (t++[p])=_;rw[recsL_snoc (n+1) t p];simp only[recsL,List.cons_append,List.length_cons];rw[show n+1+t.length=n+(t.length+1)by omega]
theorem rdP(l:List Pr)(i:Nat)(h:i<l.length):Qkz l (i:Int)=l[i]:=by simp[Qkz,List.getElem?_eq_getElem h]
theorem mrecs_run(ps:List Pr)(hl:ps.length≤1000000):∀(d i k:Nat),i+d=ps.length→d+1≤k→Qcx.l0 k (recsL 1 (ps.take i)) ps (ps.length:Int) (i:Int)=some (recsL 1 ps)
 | 0,i,k,h,hk=>by
  obtain⟨k,rfl⟩:∃m,k=m+1:=⟨k-1,by omega⟩;unfold Qcx.l0;rw[if_neg (by omega),List.take_of_length_le (by omega)]
 | d+1,i,k,h,hk=>by
  obtain⟨k,rfl⟩:∃m,k=m+1:=⟨k-1,by omega⟩;unfold Qcx.l0;have hi:i<ps.length:=by omega
  have hlen:(recsL 1 (ps.take i)).length=i:=by rw[recsL_length,List.length_take];omega
  rw[if_pos (by omega),if_pos (by omega),if_pos (by omega),if_pos (by rw[hlen];omega),rdP ps i hi,show wrap64 ((i:Int)+1)=((i+1:Nat):Int)by unfold wrap64;omega];have e:recsL 1 (ps.take i)++[(⟨false,IntKind.u64.wrap ((IntKind.u64.wrap (i:Int))+1),ps[i].f0,ps[i].f1⟩:Rec)]=recsL 1 (ps.take (i+1)):=by
   rw[List.take_succ_eq_append_getElem hi,recsL_snoc,List.length_take,IntWalk.u64_in (i:Int) (by omega),IntWalk.u64_in _ (by omega),Nat.min_eq_left (by omega)];rw[show((1+i:Nat):Int)=(i:Int)+1 by omega]
  rw[e];exact mrecs_run ps hl d (i+1) k (by omega) (by omega)
theorem mrecs_is(ps:List Pr)(k:Nat)(hl:ps.length≤1000000)(hk:ps.length+1≤k):Qcx.f k ps=some (recsL 1 ps):=mrecs_run ps hl ps.length 0 k (by omega) (by omega)
theorem gall_is{l:List Int}(hb:Bytes l)(hl:l.length≤100000000):Qan.f l=some (allL l (l.length+1) 0 []):=by
 unfold Qan.f;exact if_pos ⟨bytes_all.2 hb,hl⟩
theorem gall_spec{l:List Int}(hb:Bytes l){ps:List Pr}{j er:Int}(h:allL l (l.length+1) 0 []=(ps,j,er)) :
  j=(sumP' ps:Int)∧sumP' ps≤l.length∧(∀p∈ps,okP p)∧(er=0∨er=2∨er=3∨er=4∨er=5)∧(er=0→sumP' ps=l.length):=by
 obtain⟨more,e1,e2,e3,e4,e5,e6⟩:=all_spec hb _ _ _ _ _ _ (Nat.zero_le _) h (by omega);rw[List.nil_append]at e1;subst e1;rw[Nat.zero_add]at e2 e3 e6;exact⟨e2,e3,e4,e5,e6⟩
theorem strict_good{e s:Int}(hG:Good e s){l:List Int}(hb:Bytes l)(hl:l.length≤1000000){ps:List Pr}{j er:Int}(h:allL l (l.length+1) 0 []=(ps,j,er))(k:Nat)(hk:l.length+1≤k) :
  Qcy.f k e s l=if er=0 then(Qcu.f k e s (recsL 1 ps)).bind (fun t=>some (t.1,0,t.2))else some ([],j,er):=by
 obtain⟨h1,h2,h3,h4,h5⟩:=gall_spec hb h;have h6:=sum_least h3;unfold Qcy.f;rw[Qxs hG,Option.bind_some,if_pos rfl,gall_is hb (by omega),h,Option.bind_some];dsimp only
 by_cases h0:er=0
 ·rw[if_pos h0,if_pos h0,mrecs_is ps k (by omega) (by omega),Option.bind_some]
 ·rw[if_neg h0,if_neg h0]
theorem prefix_good{e s:Int}(hG:Good e s){l:List Int}(hb:Bytes l)(hl:l.length≤1000000){ps:List Pr}{j er:Int}(h:allL l (l.length+1) 0 []=(ps,j,er))(k:Nat)(hk:l.length+1≤k) :
  Qcw.f k e s l=(Qcu.f k e s (recsL 1 ps)).bind (fun t=>if t.2=0 then some (t.1,(ps.length:Int),j,0)else some ([],0,0,t.2)):=by
 obtain⟨h1,h2,h3,h4,h5⟩:=gall_spec hb h;have h6:=sum_least h3;unfold Qcw.f;rw[Qxs hG,Option.bind_some,if_pos rfl,gall_is hb (by omega),h,Option.bind_some];dsimp only;rw[mrecs_is ps k (by omega) (by omega),Option.bind_some]
theorem good_121:Good 12 1:=by unfold Good;omega
theorem mlives(k:Nat)(hk:100≤k):Qat.f k=some true:=by
 have hw:Wf (recsL 1 []):=by simp[recsL,Wf]
 obtain⟨fin,h1,h2,h3,h4,h5⟩:=encode_ok 12 1 (recsL 1 []) k (by simp[recsL]) hw (by simp[recsL];omega) (spec_few good_121 (ps:=[]) (by simp) (by simp[sumP']));have h6:fin=[]:=List.eq_nil_of_length_eq_zero (by rw[h4];rfl);subst h6;unfold Qat.f;rw[strict_good good_121 (l:=[]) (by simp[Bytes]) (by simp) (ps:=[]) (j:=0) (er:=0) rfl k qq_23,if_pos rfl,h1];rfl
theorem Bytes.app{a b:List Int}(h1:Bytes a)(h2:Bytes b):Bytes (a++b):=fun x hx=>(List.mem_append.1 hx).elim (h1 x) (h2 x)
theorem Bytes.cons{a:Int}{b:List Int}(h1:0≤a∧a<256)(h2:Bytes b):Bytes (a :: b):=fun x hx=>by
 rcases List.mem_cons.1 hx with rfl|hx
 ·exact h1
 ·exact h2 x hx
theorem Bytes.tail{a:Int}{b:List Int}(h:Bytes (a :: b)):Bytes b:=fun x hx=>h x (List.mem_cons_of_mem _ hx)
theorem leb_bytes:∀(n:Nat) (x:Int),Bytes (leb x n)
 | 0,_=>fun y hy=>by cases hy
 | n+1,x=>(leb_bytes n (x/256)).cons (by omega)
def okR(r:Rec):Prop:=chkR r=0∧0≤r.f1∧r.f1<18446744073709551616
theorem leb_le:∀(l:List Int),Bytes l→leb (leI l) l.length=l
 | [],_=>rfl
 | b :: l,h=>by
  have hb:=h b (List.mem_cons_self ..);have hr:=(leI_range h.tail).1;simp only[List.length_cons,leb,leI];rw[show(b+256*leI l)%256=b by omega,show(b+256*leI l)/256=leI l by omega,leb_le l h.tail]
theorem le_leb:∀(n:Nat) (x:Int),0≤x→x<256^n→leI (leb x n)=x
 | 0,x,h0,h1=>by simp at h1;simp[leb,leI];omega
 | n+1,x,h0,h1=>by
  rw[Int.pow_succ]at h1;simp only[leb,leI];rw[le_leb n (x/256) (by omega) (by omega)];omega
end Go.Proofs.YtnnofopfbeklbaaGreat.CodecP
end
section
namespace Go.Proofs.YtnnofopfbeklbaaGreat.C
open Go.RowKit Go.Proofs.YtnnofopfbeklbaaGreatW.PrintWords Go.Proofs.YtnnofopfbeklbaaGreatW.PrintLast Go.Proofs.YtnnofopfbeklbaaGreatW.PrintMore
def Qay.f(a0:Int)(a1:ByteArray):Option Int:=if 0≤a0∧a0<4294967296∧a1.size≤4611686018427387904 then some (Qqm a0 (bytesOf a1))else none
theorem Qay.calls(a0:Int)(a1:ByteArray)(r:Int)(w:World)(h:Qay.f a0 a1=some r) :
  Calls Tryz.prog 225 #[.int .u32 a0,.string a1] w fun e w'=>e=.returned (.int .u32 r)∧Below w.heap.size w w':=by
 unfold Qay.f at h;split at h
 ·rename_i hs;simp only[Option.some.injEq]at h;subst h;refine(doc_of a0 a1 w (by omega)).mono ?_;rintro e w' ⟨h1,h2⟩;rw[CodecP.doc_same a0 a1 ⟨hs.1,hs.2.1⟩ hs.2.2]at h1;exact⟨h1,h2⟩
 ·cases h
end Go.Proofs.YtnnofopfbeklbaaGreat.C
end
section
namespace Go.Proofs.YtnnofopfbeklbaaGreat.C
open Go.RowKit Go.Proofs.YtnnofopfbeklbaaGreatW.PrintWords Go.Proofs.YtnnofopfbeklbaaGreatW.PrintLast Go.Proofs.YtnnofopfbeklbaaGreatW.PrintMore
attribute [local go_sem] Qjm Qjn Qjo Qjp Qjq Qjr Qjs Qjt
def Qbs.f(k:Nat)(a0_0:ByteArray)(a0_1:ByteArray):Option (ByteArray):=(Qau.f k (IntKind.u64.wrap ((a0_0.size:Int))) 4).bind fun t773=>((Qau.f k (IntKind.u64.wrap ((a0_1.size:Int))) 4).bind fun t774=>(if t773.size+t774.size≤9223372036854775807 then(if(t773++t774).size+a0_0.size≤9223372036854775807 then(if((t773++t774)++a0_0).size+a0_1.size≤9223372036854775807 then((Qay.f 0 (((t773++t774)++a0_0)++a0_1)).bind fun t775=>((Qau.f k (IntKind.u64.wrap (t775)) 4).bind fun t776=>(if(((t773++t774)++a0_0)++a0_1).size+t776.size≤9223372036854775807 then(some ((((t773++t774)++a0_0)++a0_1)++t776))else(none))))else(none))else(none))else(none)))
def Qbs.T1:Bool × List (List Nat × List Nat):=(true,[([],[]),([0],[0]),([1],[1]),([2],[2]),([3],[3]),([],[]),([5],[5]),([6],[6]),([7],[7]),([8,4],[8]),([4,9],[4,9]),([],[]),([11],[11]),([10,12],[10,12]),([],[]),([14],[14]),([13,15],[13,15]),([16,9,0,1,2,3,4,5,6,7,8,9,10,11,12,13,14,15,16],[16])])
def Qbs.B1:List Nat:=[0,1,3,7,15,0,32,96,224,511,1023,0,2048,8191,0,16384,65535,131071]
theorem Qbs.tab1:rtab .any (Qjd Tryz.f195 1)=Qbs.T1:=by kernel_rfl
theorem Qbs.bits1:Qix Qbs.T1.2 Qbs.B1=true:=by kernel_rfl
theorem Qbs.calls(k:Nat)(a:ByteArray)(c:ByteArray)(r:ByteArray)(w:World)(h:Qbs.f k a c=some r) :
  Calls Tryz.prog 195 #[.agg #[.string a,.string c]] w fun e w'=>e=.returned (.string r)∧Below w.heap.size w w':=by
 have hu210:=Tryz.underlying210;have HB:=QA (Below.refl w.heap.size w);have H:((Qau.f k (IntKind.u64.wrap ((a.size:Int))) 4).bind fun d=>((Qau.f k (IntKind.u64.wrap ((c.size:Int))) 4).bind fun j=>(if d.size+j.size≤9223372036854775807 then(if(d++j).size+a.size≤9223372036854775807 then(if((d++j)++a).size+c.size≤9223372036854775807 then((Qay.f 0 (((d++j)++a)++c)).bind fun q=>((Qau.f k (IntKind.u64.wrap (q)) 4).bind fun p=>(if(((d++j)++a)++c).size+p.size≤9223372036854775807 then(some ((((d++j)++a)++c)++p))else(none))))else(none))else(none))else(none))))=some r:=h;clear h;replace H:=Option.bind_eq_some_iff.mp H;obtain⟨d,v,H⟩:=H;have A2:=QA v;clear v;replace H:=Option.bind_eq_some_iff.mp H;obtain⟨j,x,H⟩:=H;have A3:=QA x;clear x
 by_cases c4:d.size+j.size≤9223372036854775807
 ·rw [if_pos c4]at H;have O:=eq_true c4;have P:=decide_eq_true c4
  try have T:(9223372036854775807<d.size+j.size)=False:=eq_false (Nat.not_lt.2 c4)
  by_cases c5:(d++j).size+a.size≤9223372036854775807
  ·rw[if_pos c5]at H;have U:=eq_true c5;have W:=decide_eq_true c5
   try have s:(9223372036854775807<(d++j).size+a.size)=False:=eq_false (Nat.not_lt.2 c5)
   try have A:=s
   try simp only[ByteArray.size_append,(show ∀x_:UInt8,(⟨#[x_]⟩:ByteArray).size=1 from fun _=>rfl),(show ∀x_ y_:UInt8,(⟨#[x_,y_]⟩:ByteArray).size=2 from fun _ _=>rfl)]at A
   try have B:=s
   try simp only[ByteArray.size_append,ByteArray.size_extract,(show ∀x_:UInt8,(⟨#[x_]⟩:ByteArray).size=1 from fun _=>rfl),(show ∀x_ y_:UInt8,(⟨#[x_,y_]⟩:ByteArray).size=2 from fun _ _=>rfl)]at B
   by_cases c6:((d++j)++a).size+c.size≤9223372036854775807
   ·rw[if_pos c6]at H;have X:=eq_true c6;have Y:=decide_eq_true c6
    try have t:(9223372036854775807<((d++j)++a).size+c.size)=False:=eq_false (Nat.not_lt.2 c6)
    try have D:=t
    try simp only[ByteArray.size_append,(show ∀x_:UInt8,(⟨#[x_]⟩:ByteArray).size=1 from fun _=>rfl),(show ∀x_ y_:UInt8,(⟨#[x_,y_]⟩:ByteArray).size=2 from fun _ _=>rfl)]at D
    try have E:=t
    try simp only[ByteArray.size_append,ByteArray.size_extract,(show ∀x_:UInt8,(⟨#[x_]⟩:ByteArray).size=1 from fun _=>rfl),(show ∀x_ y_:UInt8,(⟨#[x_,y_]⟩:ByteArray).size=2 from fun _ _=>rfl)]at E
    replace H:=Option.bind_eq_some_iff.mp H;obtain⟨q,y,H⟩:=H;have A7:=QA y;clear y;replace H:=Option.bind_eq_some_iff.mp H;obtain⟨p,z,H⟩:=H;have A8:=QA z;clear z
    by_cases c9:(((d++j)++a)++c).size+p.size≤9223372036854775807
    ·rw[if_pos c9]at H;have Z:=eq_true c9;have aa:=decide_eq_true c9
     try have u:(9223372036854775807<(((d++j)++a)++c).size+p.size)=False:=eq_false (Nat.not_lt.2 c9)
     try have G:=u
     try simp only[ByteArray.size_append,(show ∀x_:UInt8,(⟨#[x_]⟩:ByteArray).size=1 from fun _=>rfl),(show ∀x_ y_:UInt8,(⟨#[x_,y_]⟩:ByteArray).size=2 from fun _ _=>rfl)]at G
     try have I:=u
     try simp only[ByteArray.size_append,ByteArray.size_extract,(show ∀x_:UInt8,(⟨#[x_]⟩:ByteArray).size=1 from fun _=>rfl),(show ∀x_ y_:UInt8,(⟨#[x_,y_]⟩:ByteArray).size=2 from fun _ _=>rfl)]at I
     obtain rfl:=Option.some.inj H
     go_enter Tryz.func195,Tryz.ntmps195
     try go_wp2_with (first |((with_reducible refine Qgv (N:=1) rfl ?_);refine qq_e 1 #[.string a,.string c] 210 ?_;intro l hg J hbox hb;have n_:=qn4 (Qgk qq_b hb) (hbox) (qq_s hg:w.heap.size≤l) (qq_s hg:w.heap.size≤l);clear HB;obtain⟨HB,b,L,M⟩:=n_;clear hb hbox hg))
     have n_:=qn2 (Qfc b.out) (Qgr HB.out);clear b HB;obtain⟨b,HB⟩:=n_;refine Qhk (n:=18) (S:=fun w'=>w'.cell? ⟨l,0,none⟩=some (.string a)∧w'.cell? ⟨l,1,none⟩=some (.string c)) (ds:=[]) (bm 18 0) qq_6 rfl rfl ⟨(Qep b.out 0).trans rfl,(Qep b.out 1).trans rfl⟩ (fun m=>?_);refine Qjb Qbs.tab1 Qbs.bits1 (fun HT_ HW_=>?_);generalize J.drew=w11 at b HB m ⊢;refine pz_ (i:=0) (N:=some 4) (bm 18 1) (Qit HT_.out qq_6) ?_;refine pz_ (i:=5) (N:=some 9) (bm 18 33) (Qit HT_.out qq_6) ?_;refine pz_ (i:=11) (N:=some 15) (bm 18 2081) (Qit HT_.out qq_6) ?_;refine pz_ (i:=14) (N:=some 18) (bm 18 18465) (Qit HT_.out qq_6) ?_;refine tz_ (i:=1) (N:=some 5) (bm 18 18467) (Qja HT_.out HW_.out qq_6) m ?_;refine pz_ (i:=2) (N:=some 6) (bm 18 18471) (Qit HT_.out qq_6) ?_;refine pz_ (i:=3) (N:=some 7) (bm 18 18479) (Qit HT_.out qq_6) ?_;refine tz_ (i:=6) (N:=some 10) (bm 18 18543) (Qja HT_.out HW_.out qq_6) m ?_;refine pz_ (i:=7) (N:=some 11) (bm 18 18671) (Qit HT_.out qq_6) ?_;refine pz_ (i:=8) (N:=some 12) (bm 18 18927) (Qit HT_.out qq_6) ?_;refine tz_ (i:=12) (N:=some 16) (bm 18 23023) (Qja HT_.out HW_.out qq_6) m ?_;refine tz_ (i:=15) (N:=some 19) (bm 18 55791) (Qja HT_.out HW_.out qq_6) m ?_;refine one_ (i:=4) (N:=some 8) (bm 18 55807) rfl rfl (Qiu HT_.out qq_6) (by decide) (fun K hK=>?_);refine Qht Tryz.func103 qq_6 rfl #[.int .u64 (IntKind.u64.wrap ((a.size:Int))),.int .i64 4] (by rfl) rfl rfl qq_1 ?_;with_reducible refine(Qau.calls k (IntKind.u64.wrap ((a.size:Int))) 4 d _ A2.out).mono ?_
     rintro e ab ⟨rfl,hb⟩;refine⟨_,rfl,?_⟩;have n_:=qn2 (Qfe (g:=l) (o:=.cells #[.string a,.string c] 210 (0,0)) qq_0 hb) (Qgk qq_b hb);clear b HB;obtain⟨b,HB⟩:=n_
     (try clear hb)
     (try clear hb2)
     (try clear hk)
     (try clear hi)
     refine hK.out _ _ ⟨(Qep b.out 0).trans rfl,(Qep b.out 1).trans rfl⟩ (fun m=>?_);clear hK K;refine nzp_ 8 ?_;refine one_ (i:=9) (N:=some 13) (bm 18 56319) rfl rfl (Qiu HT_.out qq_6) (by decide) (fun K hK=>?_);refine Qht Tryz.func103 qq_6 rfl #[.int .u64 (IntKind.u64.wrap ((c.size:Int))),.int .i64 4] (by rfl) rfl rfl qq_1 ?_;with_reducible refine(Qau.calls k (IntKind.u64.wrap ((c.size:Int))) 4 j _ A3.out).mono ?_
     rintro e ac ⟨rfl,hb⟩;refine⟨_,rfl,?_⟩;have n_:=qn2 (Qfe (g:=l) (o:=.cells #[.string a,.string c] 210 (0,0)) qq_0 hb) (Qgk qq_b hb);clear b HB;obtain⟨b,HB⟩:=n_
     (try clear hb)
     (try clear hb2)
     (try clear hk)
     (try clear hi)
     refine hK.out _ _ ⟨(Qep b.out 0).trans rfl,(Qep b.out 1).trans rfl⟩ (fun m=>?_);clear hK K;refine nzp_ 13 ?_;refine pz_ (i:=10) (N:=some 14) (bm 18 57343) (Qit HT_.out qq_6) ?_;refine pz_ (i:=13) (N:=some 17) (bm 18 65535) (Qit HT_.out qq_6) ?_;refine pz_ (i:=16) (N:=some 20) (bm 18 131071) (Qit HT_.out qq_6) ?_;refine pz_ (i:=17) (N:=some 3) (bm 18 262143) (Qit HT_.out qq_6) ?_;refine Qhn (Qiw HT_.out qq_6) ?_
     try go_wp2_with (first |((with_reducible refine Qju (f:=225) rfl ?_);refine Qhu (some 23) rfl rfl Tryz.func225 qq_6 rfl #[.int .u32 0,.string (((d++j)++a)++c)] rfl qq_1 ?_;(with_reducible refine(Qay.calls 0 (((d++j)++a)++c) q _ A7.out).mono ?_);rintro e ad ⟨rfl,hb⟩;refine⟨_,rfl,?_⟩;have n_:=qn2 (Qfe (g:=l) (o:=.cells #[.string a,.string c] 210 (0,0)) qq_0 hb) (Qgk qq_b hb);clear b HB;obtain⟨b,HB⟩:=n_;(try clear hb);(try clear hb2);(try clear hk);(try clear hi)) |((with_reducible refine Qju (f:=103) rfl ?_);refine Qhu (some 25) rfl rfl Tryz.func103 qq_6 rfl #[.int .u64 (IntKind.u64.wrap (q)),.int .i64 4] rfl qq_1 ?_;(with_reducible refine(Qau.calls k (IntKind.u64.wrap (q)) 4 p _ A8.out).mono ?_);rintro e ae ⟨rfl,hb⟩;refine⟨_,rfl,?_⟩;have n_:=qn2 (Qfe (g:=l) (o:=.cells #[.string a,.string c] 210 (0,0)) qq_0 hb) (Qgk qq_b hb);clear b HB;obtain⟨b,HB⟩:=n_;(try clear hb);(try clear hb2);(try clear hk);(try clear hi)))
     go_ret
     exact⟨qq_7,qq_b⟩
    ·rw[if_neg c9]at H;exact absurd H (by simp)
   ·rw[if_neg c6]at H;exact absurd H (by simp)
  ·rw[if_neg c5]at H;exact absurd H (by simp)
 ·rw[if_neg c4]at H;exact absurd H (by simp)
end Go.Proofs.YtnnofopfbeklbaaGreat.C
end
