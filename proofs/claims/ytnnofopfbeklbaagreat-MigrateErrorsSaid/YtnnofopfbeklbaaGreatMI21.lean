/- Texts of this claim's author and of the print of its functions, merged by merge.py. -/
import Derived.Test.YtnnofopfbeklbaaGreatMI20
import Derived.Test.YtnnofopfbeklbaaGreatMI17
import Derived.Test.YtnnofopfbeklbaaGreatMI15
import Derived.Test.YtnnofopfbeklbaaGreatMI18
set_option linter.unusedVariables false
set_option linter.unusedSimpArgs false
set_option maxHeartbeats 8000000
set_option maxRecDepth 100000
section
namespace Go.Proofs.YtnnofopfbeklbaaGreat.CodecP
open Go.RowKit Go.Proofs.YtnnofopfbeklbaaGreat.C Go.Proofs.YtnnofopfbeklbaaGreatW.PrintWords Go.Proofs.YtnnofopfbeklbaaGreatW.PrintLast Go.Proofs.YtnnofopfbeklbaaGreatW.PrintMore
theorem Qrk:∀(n:Nat) (b:List Int),b.length≤n→(Qiy b).length≤b.length+1+(b.length-1)/254
 | n,b,hn=>by
  rcases Int.lt_or_le (ixOf (b.take 254) 0) 0 with h0|h0
  ·by_cases hl:254<b.length
   ·rw[Qjc h0 hl]
    match n,hn with
    | 0,hn=>omega
    | n+1,hn =>
     have ih:=Qrk n (b.drop 254) qq_12
     rw[List.length_drop]at ih
     rw[List.length_cons,List.length_append,List.length_take]
     omega
   ·rw[Qjd h0 hl,List.length_cons]
    omega
  ·obtain⟨p,hp⟩:=Int.eq_ofNat_of_zero_le h0
   have h1:=(Qiw (b.take 254) 0).2
   rw[List.length_take,hp]at h1
   rw[Qjb hp]
   match n,hn with
   | 0,hn=>omega
   | n+1,hn =>
    have ih:=Qrk n (b.drop (p+1)) qq_12
    rw[List.length_drop]at ih
    rw[List.length_cons,List.length_append,List.length_take]
    omega
theorem Qrl(b:List Int):(Qlm b).length≤b.length+8+1+(b.length+8-1)/254+1:=by
 have h:=Qrk _ (b++leb (Qjx 0 b) 8) (Nat.le_refl _)
 rw[List.length_append,Qhy]at h
 unfold Qlm
 rw[List.length_append]
 simp
 omega
theorem Qrm(l:List Ent):(Qmp l).length=(l.length+15)/16:=by simp[Qmp,chN]
theorem Qrn(u:Int)(l:List Ent):((Qom u l).length:Int)≤Qpw (l.length:Int):=by
 have h:=Qrl ([4]++leb l.length 4++leb u 4++l.flatMap ent++(Qmp l).flatMap (fun x=>leb x 8))
 have h2:=Qor (l.length:Int) u l
 rw[List.nil_append]at h2
 rw[h2,Qrm]at h
 unfold Qom Qpw
 obtain⟨c,hc⟩:∃c,c=(l.length+15)/16:=⟨_,rfl⟩
 have hcI:((l.length:Int)+15)/16=(c:Int):=by omega
 rw[hcI]
 rw[← hc]at h
 clear hc hcI h2
 obtain⟨g,hg⟩:∃g,g=(9+12*l.length+8*c+8-1)/254:=⟨_,rfl⟩
 have hgI:(9+12*(l.length:Int)+8*(c:Int)+8-1)/254=(g:Int):=by omega
 rw[hgI]
 rw[← hg]at h
 clear hg hgI
 omega
theorem Qro(x y z:Ent)(h1:(!(ltOf cfE) y x)=true)(h2:(!(ltOf cfE) z y)=true):(!(ltOf cfE) z x)=true:=by
 rw[Qnt]at *
 simp at *
 omega
theorem Qrp(x y:Ent):((!(ltOf cfE) y x) ||(!(ltOf cfE) x y))=true:=by
 rw[Qnt,Qnt]
 simp
 omega
theorem Qrq(l:List Ent):(Qnr l).Pairwise (fun x y=>(!(ltOf cfE) y x)=true):=List.pairwise_mergeSort Qro Qrp l
theorem Qrr:∀(l:List Ent),l.Pairwise (fun x y=>(!(ltOf cfE) y x)=true)→l.Nodup→Qoe l=true
 | [],_,_=>rfl
 | [_],_,_=>rfl
 | a :: b :: t,hp,hn=>by
  have hp2:=List.pairwise_cons.1 hp
  have hn2:=List.pairwise_cons.1 hn
  have ih:=Qrr (b :: t) hp2.2 hn2.2
  have h1:=hp2.1 b (by simp)
  have h2:=hn2.1 b (by simp)
  have h3:ltOf cfE a b=true:=by
   cases h:ltOf cfE a b with
   | true=>rfl
   | false=>exact absurd (totE a b h (by simpa using h1)) h2
  unfold Qoe ltE
  rw[ih]
  simpa [ltOf]using h3
theorem Qrs{l:List Ent}(h:l.Nodup):Qoe (Qnr l)=true:=Qrr _ (Qrq l) ((Qob l).nodup_iff.2 h)
def okB(e s n:Int)(i:Nat)(B:Bd):Prop :=
 B.1=(e,s,n,(B.2.1.length:Int),(B.2.2.length:Int))∧B.2.2.length≤i∧(∀x∈B.2.2,wfE x∧x.f1<(B.2.1.length:Int))∧B.2.2.Pairwise (fun x y=>x.f1<y.f1)∧(B.2.1.length:Int)≤16777216
def putB(e s n:Int)(B:Bd)(r:Rec):Bd :=
 ((e,s,n,((B.2.1++Qqw r).length:Int),((B.2.2.length+1:Nat):Int)),B.2.1++Qqw r,B.2.2++[⟨Qjx 0 (bytesOf r.f2),(B.2.1.length:Int)%4294967296⟩])
def Qrt(e s n:Int):Bd:=((e,s,n,Qps e s n,0),Qlr e s n,[])
theorem Qru{e s:Int}(h:Good e s)(n:Int)(h0:0≤n)(h1:n<s):newB e s n=some (Qrt e s n):=by
 unfold newB
 rw[Qqi h n h0 h1,Option.bind_some,Qqh h n h0 h1,Option.bind_some]
 simp[Qrt]
theorem Qrv(e s n:Int)(i:Nat):okB e s n i (Qrt e s n):=by
 have:=Qpu e s n
 refine⟨by simp[Qrt,Qps],by simp[Qrt],by simp[Qrt],by simp[Qrt],?_⟩
 unfold Qps at this
 simp only[Qrt]
 omega
theorem Qrw{e s:Int}(h:Good e s){x:Int}(hx1:x≤1152921504606846976)(hf:Qqd e (Qps e s (s-1)) 0 x=true):Qbk.f e s x=some false:=by
 have hr:=Qpu e s (s-1)
 have hg:=h
 obtain⟨g1,g2,g3,g4⟩:=hg
 unfold Qbk.f
 rw[show(s-1)%4294967296=s-1 by omega,Qqi h (s-1) (by omega) (by omega),Option.bind_some]
 dsimp only
 rw[if_pos rfl,Qqe h _ _ _ _ (by omega) (by omega) (by omega) (by omega) hx1,hf]
 rfl
theorem Qrx{e s n:Int}(h:Good e s){i:Nat}{B:Bd}{r:Rec}(hB:okB e s n i B)(hi:i≤1000000)(hc:chkR r=0)(hw:0≤r.f1∧r.f1<18446744073709551616)
  (hl:Qqd e (Qps e s (s-1)) 0 (fsz r)=true) (hf:Qqd e (B.2.1.length:Int) (B.2.2.length:Int) (fsz r)=true) :
  addB B r=some (putB e s n B r)∧okB e s n (i+1) (putB e s n B r)∧((putB e s n B r).2.1.length:Int)+Qpw ((putB e s n B r).2.2.length:Int)≤szN e∧(putB e s n B r).2.2≠[]:=by
 obtain⟨b1,b2,b3,b4,b5⟩:=hB
 have hx:=Qqz r hc
 have hft:=Qqf hf
 have hsz:=Qpz h.1 h.2.1
 have hm:=Qqc ((B.2.2.length:Int)+1) (by omega) (by omega)
 have hlen:((B.2.1++Qqw r).length:Int)=(B.2.1.length:Int)+fsz r:=by rw[List.length_append];unfold fsz;omega
 have hh:=Qll 0 (bytesOf r.f2)
 have hmod:(B.2.1.length:Int)%4294967296=(B.2.1.length:Int):=by omega
 refine⟨?_,⟨?_,?_,?_,?_,?_⟩,?_,?_⟩
 ·unfold addB
  rw[if_pos (show chk r.f0 r.f2 r.f3=0 from hc),Qra r hc hw.1 hw.2,Option.bind_some,b1]
  dsimp only
  rw[show((Qqw r).length:Int)=fsz r from rfl,Qrw h (by omega) hl,Option.bind_some,Qqg h n _ _ _ (by omega) (by omega) (by omega) (by omega) (by omega) hf,Option.bind_some]
  dsimp only
  rw[if_pos ⟨rfl,rfl,rfl,by have hfz:((Qqw r).length:Int)=fsz r:=rfl;omega,by omega⟩]
  unfold putB
  rw[hlen]
  simp
 ·simp[putB]
 ·simp only[putB,List.length_append,List.length_cons,List.length_nil]
  omega
 ·intro x hxm
  simp only[putB]at hxm ⊢
  rw[hlen]
  rcases List.mem_append.1 hxm with hm' | hm'
  ·have:=b3 x hm'
   exact⟨this.1,by omega⟩
  ·simp only[List.mem_singleton]at hm'
   subst hm'
   rw[hmod]
   exact⟨⟨hh,(show(0:Int)≤(B.2.1.length:Int)by omega),(show(B.2.1.length:Int)<4294967296 by omega)⟩,by dsimp only;omega⟩
 ·simp only[putB]
  rw[List.pairwise_append]
  refine⟨b4,by simp,?_⟩
  intro x hx y hy
  simp only[List.mem_singleton]at hy
  subst hy
  rw[hmod]
  exact(b3 x hx).2
 ·simp only[putB]
  rw[hlen]
  omega
 ·simp only[putB]
  rw[hlen,List.length_append]
  simp only[List.length_cons,List.length_nil]
  have:(((B.2.2.length+(0+1):Nat)):Int)=(B.2.2.length:Int)+1:=by omega
  rw[this]
  omega
 ·simp[putB]
theorem Qry(u:Int){l:List Ent}(h:∀x∈l,x.f1<u):(Qnr l).any (fun x=>decide (u≤x.f1))=false:=by
 rw[List.any_eq_false]
 intro x hx
 have:=h x ((Qob l).mem_iff.1 hx)
 simp
 omega
theorem Qrz{l:List Ent}(h:l.Pairwise (fun x y=>x.f1<y.f1)):l.Nodup:=h.imp (fun {a b} hab he=>by subst he;omega)
theorem Qsa{e s n:Int}(h:Good e s){i:Nat}{B:Bd}(hB:okB e s n i B)(hi:i≤1000000)(hne:B.2.2≠[])(hr:(B.2.1.length:Int)+Qpw (B.2.2.length:Int)≤szN e) :
  ∃o,Qou B=some o∧o.length=(szN e).toNat∧B.2.1 <+: o:=by
 obtain⟨b1,b2,b3,b4,b5⟩:=hB
 have hsz:=Qpz h.1 h.2.1
 have hu:Qot B=(B.2.1.length:Int):=by unfold Qot;omega
 have hfl:=Qrn (Qot B) (Qnr B.2.2)
 rw[Qns]at hfl
 have hn0:B.2.2.length≠0:=fun he=>hne (List.eq_nil_of_length_eq_zero he)
 have hck:Qoj (Qot B) (Qnr B.2.2)=0:=by
  unfold Qoj
  rw[Qns,if_neg hn0,if_neg (by omega),Qrs (Qrz b4),if_neg (by simp),Qry _ (fun x hx=>by rw[hu];exact(b3 x hx).2),if_neg (by simp)]
 unfold Qou
 rw[b1]
 dsimp only
 rw[Qqa h,Option.bind_some,if_pos ⟨hn0,by omega,fun x hx=>(b3 x hx).1,hck,by omega,by omega⟩]
 refine⟨_,rfl,?_,?_⟩
 ·rw[List.length_append,List.length_replicate,List.length_append]
  omega
 ·rw[List.append_assoc]
  exact List.prefix_append _ _
theorem Qsb{e s n:Int}(h:Good e s){i:Nat}{B:Bd}(hB:okB e s n i B)(hr:(B.2.1.length:Int)≤szN e) :
  ∃o,Qov B=some o∧o.length=(szN e).toNat∧B.2.1 <+: o:=by
 obtain⟨b1,b2,b3,b4,b5⟩:=hB
 have hsz:=Qpz h.1 h.2.1
 unfold Qov
 rw[b1]
 dsimp only
 rw[Qqa h,Option.bind_some,if_pos ⟨by omega,by omega⟩]
 refine⟨_,rfl,?_,List.prefix_append _ _⟩
 rw[List.length_append,List.length_replicate]
 omega
theorem Qsc(e s:Int):∀(l out:List Int) (n u c:Int),(Qqk e s l out n u c).2=0→out <+: (Qqk e s l out n u c).1
 | [],out,n,u,c,h=>by unfold Qqk;exact List.prefix_rfl
 | x :: t,out,n,u,c,h=>by
  unfold Qqk at h ⊢
  by_cases hf:Qqd e (Qps e s (s-1)) 0 x=false
  ·rw[if_pos hf]at h;cases h
  ·rw[if_neg hf]at h ⊢
   by_cases hq:Qqd e u c x=true
   ·rw[if_pos hq]at h ⊢
    exact(List.prefix_append _ _).trans (Qsc e s t _ _ _ _ h)
   ·rw[if_neg hq]at h ⊢
    by_cases hs:n+1<s
    ·rw[if_pos hs]at h ⊢
     exact(List.prefix_append _ _).trans (Qsc e s t _ _ _ _ h)
    ·rw[if_neg hs]at h;cases h
theorem Qsd{into:List Int}{i:Nat}{x:Int}(h:into.take i++[x] <+: into)(hi:i<into.length):rd into (i:Int)=x∧into.take (i+1)=into.take i++[x]:=by
 obtain⟨t,ht⟩:=h
 have h1:=congrArg (fun l=>l[i]?) ht
 have h2:(into.take i).length=i:=by rw[List.length_take];omega
 have h3:(into.take i++[x]++t)[i]? = some x:=by
  rw[List.append_assoc,List.getElem?_append_right (by omega),h2,Nat.sub_self]
  rfl
 rw[h3]at h1
 refine⟨?_,?_⟩
 ·rw[Qkb hi]
  have h4:=List.getElem?_eq_getElem hi
  rw[← h1]at h4
  exact(Option.some.inj h4).symm
 ·rw[List.take_add_one,← h1]
  rfl
def PP(e:Int)(fin:List Int)(last:Int)(p:Plc)(r:Rec):Prop :=
 0≤p.f0∧p.f0≤last∧0≤p.f1∧p.f1≤16777216∧p.f0.toNat*(szN e).toNat+p.f1.toNat+(Qqw r).length≤fin.length∧(fin.drop (p.f0.toNat*(szN e).toNat+p.f1.toNat)).take (Qqw r).length=Qqw r
def Qse(P:Plc→Rec→Prop):List Plc→List Rec→Prop
 | [],[]=>True
 | p :: ps,r :: rs=>P p r∧Qse P ps rs
 | _,_=>False
theorem Qsf{a b fin:List Int}(h:(a++b) <+: fin):a.length+b.length≤fin.length∧(fin.drop a.length).take b.length=b:=by
 obtain⟨t,rfl⟩:=h
 refine⟨by simp,?_⟩
 rw[List.append_assoc,List.drop_left,List.take_left]
theorem Qsg{e s n:Int}(h:Good e s)(h1:n<s):n.toNat*(szN e).toNat+(szN e).toNat≤lim:=by
 have hsz:=Qpz h.1 h.2.1
 obtain⟨g1,g2,g3,g4⟩:=h
 have:(n.toNat+1)*(szN e).toNat≤65536*16777216:=Nat.mul_le_mul (by omega) (by omega)
 rw[Nat.add_mul,Nat.one_mul]at this
 unfold lim
 omega
theorem enc_run{e s:Int}(hG:Good e s)(l:List Rec)(into:List Int)(hl:l.length≤1000000)(hw:Wf l)(hc:chkL l=0)(hil:into.length=l.length) :
  ∀(d i:Nat) (out:List Int) (n:Int) (B:Bd),i+d=l.length→1≤i→okB e s n i B→B.2.2≠[]→(B.2.1.length:Int)+Qpw (B.2.2.length:Int)≤szN e→0≤n→n<s→out.length=n.toNat*(szN e).toNat→rd into ((i:Int)-1)=n →
  Qqk e s ((l.drop i).map fsz) (into.take i) n (B.2.1.length:Int) (B.2.2.length:Int)=(into,0) →
  ∃fin,encG e s into i (l.drop i) out (some B)=some fin∧(out++B.2.1) <+: fin∧n≤rd into ((into.length:Int)-1)∧rd into ((into.length:Int)-1)<s∧fin.length=((rd into ((into.length:Int)-1)).toNat+1)*(szN e).toNat ∧
   Qse (PP e fin (rd into ((into.length:Int)-1))) (Qrh e s (some n) (B.2.1.length:Int) (into.drop i) ((l.drop i).map fsz)) (l.drop i):=by
 have hsz:=Qpz hG.1 hG.2.1
 intro d
 induction d with
 | zero =>
  intro i out n B hd hi hB hne hr h0 h1 ho hprev hp
  have hi':i=into.length:=by omega
  have hmm:=Qqc (B.2.2.length:Int) (by omega) (by have:=hB.2.1;omega)
  obtain⟨o,e1,e2,t,e3⟩:=Qsb hG hB (by omega)
  have hlim:=Qsg hG h1
  rw[← hi',hprev,List.drop_of_length_le (by omega),List.drop_of_length_le (by omega)]
  refine⟨out++o,?_,?_,Int.le_refl _,h1,?_,?_⟩
  ·unfold encG
   rw[e1,Option.bind_some,if_pos (by omega)]
  ·rw[← e3,← List.append_assoc]
   exact List.prefix_append _ _
  ·rw[List.length_append,ho,e2,Nat.add_mul,Nat.one_mul]
  ·simp[Qrh,Qse]
 | succ d ihd =>
  intro i out n B hd hi hB hne hr h0 h1 ho hprev hp
  have hlt:i<l.length:=by omega
  have hlt2:i<into.length:=by omega
  have hcr:chkR l[i]=0:=Qqq hc _ (List.getElem_mem hlt)
  have hwr:=hw l[i] (List.getElem_mem hlt)
  have hx:=Qqz l[i] hcr
  have hlen:∀q:List Int,((q++Qqw l[i]).length:Int)=(q.length:Int)+fsz l[i]:=fun q=>by rw[List.length_append];unfold fsz;omega
  have hiB:=hB.2.1
  have hb5:=hB.2.2.2.2
  rw[List.drop_eq_getElem_cons hlt,List.map_cons]at hp ⊢
  unfold Qqk at hp
  by_cases hf:Qqd e (Qps e s (s-1)) 0 (fsz l[i])=false
  ·rw[if_pos hf]at hp;cases hp
  ·rw [if_neg hf]at hp
   have hft:Qqd e (Qps e s (s-1)) 0 (fsz l[i])=true:=by simpa using hf
   by_cases hq:Qqd e (B.2.1.length:Int) (B.2.2.length:Int) (fsz l[i])=true
   ·rw[if_pos hq]at hp
    obtain⟨q1,q2⟩:=Qsd (by have:=Qsc e s _ _ _ _ _ (congrArg Prod.snd hp);rw[hp]at this;exact this) hlt2
    obtain⟨a1,a2,a3,a4⟩:=Qrx hG hB (by omega) hcr hwr hft hq
    have hlB:((putB e s n B l[i]).2.1.length:Int)=(B.2.1.length:Int)+fsz l[i]:=hlen _
    have hlT:((putB e s n B l[i]).2.2.length:Int)=(B.2.2.length:Int)+1:=by simp[putB]
    rw[← q2,← hlB,← hlT]at hp
    obtain⟨fin,f1,f2,f3,f4,f5,f6⟩:=ihd (i+1) out n (putB e s n B l[i]) (by omega) (by omega) a2 a4 a3 h0 h1 ho (by rw[show((i+1:Nat):Int)-1=(i:Int)by omega];exact q1) hp
    have hfp:(out++B.2.1)++Qqw l[i] <+: fin:=by rw[List.append_assoc];exact f2
    refine⟨fin,?_,(List.prefix_append _ _).trans hfp,f3,f4,f5,?_⟩
    ·rw[encG,if_pos hlt2]
     rw[if_neg (by omega),if_pos (q1.trans hprev.symm),a1,Option.bind_some]
     exact f1
    ·rw[Qqm hlt2,q1,Qrh,if_pos rfl]
     refine⟨?_,by rw[hlB]at f6;exact f6⟩
     have hpp:=Qsf hfp
     rw[List.length_append,ho]at hpp
     have hmod:(B.2.1.length:Int)%4294967296=(B.2.1.length:Int):=by omega
     rw[hmod]
     exact⟨h0,f3,(show(0:Int)≤(B.2.1.length:Int)by omega),(show(B.2.1.length:Int)≤16777216 by omega),hpp.1,hpp.2⟩
   ·rw[if_neg hq]at hp
    by_cases hs:n+1<s
    ·rw[if_pos hs]at hp
     obtain⟨q1,q2⟩:=Qsd (by have:=Qsc e s _ _ _ _ _ (congrArg Prod.snd hp);rw[hp]at this;exact this) hlt2
     obtain⟨o,e1,e2,t,e3⟩:=Qsa hG hB (by omega) hne hr
     have hhd:=Qpu e s (n+1)
     have hfr:((Qrt e s (n+1)).2.1.length:Int)=Qps e s (n+1):=rfl
     have hfit:Qqd e ((Qrt e s (n+1)).2.1.length:Int) ((Qrt e s (n+1)).2.2.length:Int) (fsz l[i])=true:=Qql hG (by omega) (by omega) hft
     obtain⟨a1,a2,a3,a4⟩:=Qrx hG (Qrv e s (n+1) i) (by omega) hcr hwr hft hfit
     have hlB:((putB e s (n+1) (Qrt e s (n+1)) l[i]).2.1.length:Int)=Qps e s (n+1)+fsz l[i]:=hlen _
     have hlT:((putB e s (n+1) (Qrt e s (n+1)) l[i]).2.2.length:Int)=1:=by simp[putB,Qrt]
     rw[← q2,← hlB,← hlT]at hp
     have hlim:=Qsg hG h1
     have hoo:(out++o).length=(n+1).toNat*(szN e).toNat:=by
      rw[List.length_append,ho,e2,show(n+1).toNat=n.toNat+1 by omega,Nat.add_mul,Nat.one_mul]
     obtain⟨fin,f1,f2,f3,f4,f5,f6⟩:=ihd (i+1) (out++o) (n+1) _ (by omega) (by omega) a2 a4 a3 (by omega) hs hoo (by rw[show((i+1:Nat):Int)-1=(i:Int)by omega];exact q1) hp
     have hfp:((out++o)++Qlr e s (n+1))++Qqw l[i] <+: fin:=by rw[List.append_assoc];exact f2
     refine⟨fin,?_,?_,by omega,f4,f5,?_⟩
     ·rw[encG,if_pos hlt2]
      rw[if_neg (by omega),if_neg (by rw[q1,hprev];omega),e1,Option.bind_some,if_pos (by omega),q1,Qru hG (n+1) (by omega) hs,Option.bind_some,a1,Option.bind_some]
      exact f1
     ·refine List.IsPrefix.trans ?_ f2
      rw[← e3,List.append_assoc,List.append_assoc,← List.append_assoc out]
      exact List.prefix_append _ _
     ·rw[Qqm hlt2,q1,Qrh,if_neg qq_13]
      refine⟨?_,by rw[hlB]at f6;exact f6⟩
      have hpp:=Qsf hfp
      rw[List.length_append,hoo]at hpp
      have hhl:((Qlr e s (n+1)).length:Int)=Qps e s (n+1):=rfl
      have hmod:Qps e s (n+1)%4294967296=((Qlr e s (n+1)).length:Int):=by omega
      rw[hmod]
      exact⟨(show(0:Int)≤n+1 by omega),f3,(show(0:Int)≤((Qlr e s (n+1)).length:Int)by omega),(show((Qlr e s (n+1)).length:Int)≤16777216 by omega),hpp.1,hpp.2⟩
    ·rw[if_neg hs]at hp;cases hp
theorem Qsh{e s:Int}(hG:Good e s)(l:List Rec)(into:List Int)(hl:l.length≤1000000)(hw:Wf l)(hc:chkL l=0)(hil:into.length=l.length)(hne:l.length≠0)
  (hp:Qqk e s (l.map fsz) [] 0 (Qps e s 0) 0=(into,0)) :
  ∃fin,encG e s into 0 l [] none=some fin∧rd into ((into.length:Int)-1)<s∧0≤rd into ((into.length:Int)-1)∧fin.length=((rd into ((into.length:Int)-1)).toNat+1)*(szN e).toNat ∧
   Qse (PP e fin (rd into ((into.length:Int)-1))) (Qrh e s none 0 into (l.map fsz)) l:=by
 have hs0:=hG.2.2.1
 have hlt:0<l.length:=by omega
 have hlt2:0<into.length:=by omega
 have hcr:chkR l[0]=0:=Qqq hc _ (List.getElem_mem hlt)
 have hwr:=hw l[0] (List.getElem_mem hlt)
 have hx:=Qqz l[0] hcr
 have hlen:∀q:List Int,((q++Qqw l[0]).length:Int)=(q.length:Int)+fsz l[0]:=fun q=>by rw[List.length_append];unfold fsz;omega
 have hd:l=l[0] :: l.drop 1:=by
  have:=List.drop_eq_getElem_cons hlt
  rw[List.drop_zero]at this
  exact this
 have hdm:l.map fsz=fsz l[0] :: (l.drop 1).map fsz:=by
  rw[← List.map_cons,← hd]
 rw[hdm]at hp ⊢
 unfold Qqk at hp
 by_cases hf:Qqd e (Qps e s (s-1)) 0 (fsz l[0])=false
 ·rw[if_pos hf]at hp;cases hp
 ·rw [if_neg hf]at hp
  have hft:Qqd e (Qps e s (s-1)) 0 (fsz l[0])=true:=by simpa using hf
  have hfit0:=Qql hG (n:=0) (by omega) (by omega) hft
  rw[if_pos hfit0]at hp
  obtain⟨q1,q2⟩:=Qsd (i:=0) (x:=0) (by have:=Qsc e s _ _ _ _ _ (congrArg Prod.snd hp);rw[hp]at this;exact this) hlt2
  have q1':rd into 0=0:=q1
  have hfr:((Qrt e s 0).2.1.length:Int)=Qps e s 0:=rfl
  have hhd:=Qpu e s 0
  obtain⟨a1,a2,a3,a4⟩:=Qrx hG (Qrv e s 0 0) (by omega) hcr hwr hft hfit0
  have hlB:((putB e s 0 (Qrt e s 0) l[0]).2.1.length:Int)=Qps e s 0+fsz l[0]:=hlen _
  have hlT:((putB e s 0 (Qrt e s 0) l[0]).2.2.length:Int)=1:=by simp[putB,Qrt]
  have hp':Qqk e s ((l.drop 1).map fsz) (into.take 1) 0 ((putB e s 0 (Qrt e s 0) l[0]).2.1.length:Int) ((putB e s 0 (Qrt e s 0) l[0]).2.2.length:Int)=(into,0):=by
   rw[hlB,hlT,q2]
   exact hp
  obtain⟨fin,f1,f2,f3,f4,f5,f6⟩:=enc_run hG l into hl hw hc hil (l.length-1) 1 [] 0 _ (by omega) (by omega) a2 a4 a3 (by omega) (by omega) (by simp) q1' hp'
  have hfp:Qlr e s 0++Qqw l[0] <+: fin:=f2
  refine⟨fin,?_,f4,f3,f5,?_⟩
  ·have:encG e s into 0 (l[0] :: l.drop 1) [] none=some fin:=by
    rw[encG,if_pos hlt2]
    rw[if_pos rfl,q1,Qru hG 0 (by omega) (by omega),Option.bind_some,a1,Option.bind_some]
    exact f1
   rw[← hd]at this
   exact this
  ·have hdi:into=0 :: into.drop 1:=by
    have:=Qqm hlt2
    rw[List.drop_zero,q1]at this
    exact this
   have goal:Qse (PP e fin (rd into ((into.length:Int)-1))) (Qrh e s none 0 (0 :: into.drop 1) (fsz l[0] :: (l.drop 1).map fsz)) (l[0] :: l.drop 1):=by
    rw[Qrh,if_neg (by simp)]
    refine⟨?_,by rw[hlB]at f6;exact f6⟩
    have hpp:=Qsf hfp
    have hhl:((Qlr e s 0).length:Int)=Qps e s 0:=rfl
    have hmod:Qps e s 0%4294967296=((Qlr e s 0).length:Int):=by omega
    rw[hmod]
    refine⟨(show(0:Int)≤0 by omega),f3,(show(0:Int)≤((Qlr e s 0).length:Int)by omega),(show((Qlr e s 0).length:Int)≤16777216 by omega),?_,?_⟩
    ·have:=hpp.1
     simpa using this
    ·have:=hpp.2
     simpa using this
   rw[← hdi,← hd]at goal
   exact goal
theorem Qsi(e s:Int)(l:List Rec)(k:Nat)(hl:l.length≤1000000)(hw:Wf l)(hk:2*l.length+10≤k)(h:(Qre e s l).2.2=0) :
  ∃fin,Qba.f k e s l=some (fin,0)∧0≤Qrj (Qrb e s l).1∧Qrj (Qrb e s l).1≤65536∧fin.length=(Qrj (Qrb e s l).1).toNat*(szN e).toNat ∧
   Qse (PP e fin (Qrj (Qrb e s l).1-1)) (Qrh e s none 0 (Qrb e s l).1 (l.map fsz)) l:=by
 obtain⟨hg,hr,h2,h3,h4,h5⟩:=Qri h hl
 have hs:=hg.2.2.2
 unfold Qba.f
 rw[plan_is e s l k hl hw hk,Option.bind_some,if_pos h,if_pos (by omega),h3]
 dsimp only
 by_cases h0:l.length=0
 ·have hl0:l=[]:=List.eq_nil_of_length_eq_zero h0
  subst hl0
  refine⟨[],?_,?_⟩
  ·simp[encG]
  ·have:(Qrb e s []).1=[]:=rfl
   rw[this]
   simp[Qrj,Qrh,Qse]
 ·obtain⟨fin,f1,f2,f3,f4,f5⟩:=Qsh hg l (Qrb e s l).1 hl hw (Qrf hr) h4 h0 (by
   have:Qqk e s (l.map fsz) [] 0 (Qps e s 0) 0=Qrb e s l:=rfl
   rw[this,← h2])
  have hls:Qrj (Qrb e s l).1=rd (Qrb e s l).1 (((Qrb e s l).1.length:Int)-1)+1:=by
   unfold Qrj
   rw[if_neg (by omega)]
   omega
  refine⟨fin,by rw[f1];rfl,by omega,by omega,?_,?_⟩
  ·rw[hls,f4]
   congr 1
   omega
  ·rw[hls,Int.add_sub_cancel]
   exact f5
theorem Qsj(l:List Int):(strOfNums l).size=l.length:=by
 exact strOfNums_size l
def okP(p:Pr):Prop:=1≤p.f0.size∧p.f0.size≤4096∧p.f1.size≤1048576
def szP(p:Pr):Nat:=p.f0.size+p.f1.size+12
theorem one_ok{bs:List Int}(hb:Bytes bs){i j:Nat}{p:Pr}(h:oneL bs i=.ok (p,j)):okP p∧j=i+szP p∧j≤bs.length:=by
 unfold oneL at h
 split at h
 ·cases h
 rename_i h8
 have hk:=leI_range ((hb.drop i).take 4)
 have hv:=leI_range ((hb.drop (i+4)).take 4)
 generalize leI ((bs.drop i).take 4)=k at *
 generalize leI ((bs.drop (i+4)).take 4)=v at *
 dsimp only at h
 split at h
 ·cases h
 split at h
 ·cases h
 split at h
 ·cases h
 split at h
 ·simp only[Except.ok.injEq,Prod.mk.injEq]at h
  obtain⟨rfl,rfl⟩:=h
  unfold okP szP
  simp only[Qsj,List.length_take,List.length_drop]
  omega
 ·cases h
theorem one_er{bs:List Int}{i:Nat}{er at_:Int}(h:oneL bs i=.error (er,at_)):er=2∨er=3∨er=4∨er=5:=by
 unfold oneL at h
 dsimp only at h
 repeat' split at h
 all_goals first |(cases h;simp)|cases h
def Qsk:List Pr→Nat
 | []=>0
 | p :: t=>szP p+Qsk t
theorem Qsl{bs:List Int}(hb:Bytes bs):∀(f i:Nat) (acc ps:List Pr) (j er:Int),i≤bs.length→allL bs f i acc=(ps,j,er)→bs.length<i+f →
  ∃more,ps=acc++more∧j=((i+Qsk more:Nat):Int)∧i+Qsk more≤bs.length∧(∀p∈more,okP p)∧(er=0∨er=2∨er=3∨er=4∨er=5)∧(er=0→i+Qsk more=bs.length)
 | 0,i,acc,ps,j,er,hi,h,hf=>by omega
 | f + 1,i,acc,ps,j,er,hi,h,hf=>by
  unfold allL at h
  split at h
  ·rename_i hlt
   cases h1:oneL bs i with
   | error q =>
    obtain⟨e1,a1⟩:=q
    rw[h1]at h
    simp only[Prod.mk.injEq]at h
    obtain⟨rfl,rfl,rfl⟩:=h
    have:=one_er h1
    exact⟨[],by simp,by simp[Qsk],by simpa [Qsk]using hi,by simp,by omega,by omega⟩
   | ok q =>
    obtain⟨p,j1⟩:=q
    rw[h1]at h
    obtain⟨h2,h3,h4⟩:=one_ok hb h1
    have hsz:12≤szP p:=by unfold szP;omega
    obtain⟨more,e1,e2,e3,e4,e5,e6⟩:=Qsl hb f j1 (acc++[p]) ps j er h4 h (by omega)
    refine⟨p :: more,by rw[e1];simp,?_,?_,?_,e5,?_⟩
    ·rw[e2,h3];simp only[Qsk];congr 1;omega
    ·simp only[Qsk];omega
    ·intro q hq
     rcases List.mem_cons.1 hq with rfl|hq
     ·exact h2
     ·exact e4 q hq
    ·intro h0
     have:=e6 h0
     simp only[Qsk];omega
  ·simp only[Prod.mk.injEq]at h
   obtain⟨rfl,rfl,rfl⟩:=h
   exact⟨[],by simp,by simp[Qsk],by simpa [Qsk]using hi,by simp,by simp,by simp[Qsk];omega⟩
theorem Qsm:∀ {ps:List Pr},(∀p∈ps,okP p)→13*ps.length≤Qsk ps
 | [],_=>by simp[Qsk]
 | p :: t,h=>by
  have h1:=h p (List.mem_cons_self ..)
  have h2:=Qsm (fun q hq=>h q (List.mem_cons_of_mem _ hq))
  simp only[Qsk,List.length_cons]
  unfold okP at h1
  unfold szP
  omega
def Qsn(n:Nat):List Pr→List Rec
 | []=>[]
 | p :: t=>⟨false,(n:Int),p.f0,p.f1⟩ :: Qsn (n+1) t
theorem Qso:∀(n:Nat) (ps:List Pr),(Qsn n ps).length=ps.length
 | _,[]=>rfl
 | n,p :: t=>by simp only[Qsn,List.length_cons,Qso (n+1) t]
theorem chk_ok{p:Pr}(h:okP p):chk false p.f0 p.f1=0:=by
 unfold okP at h
 have hne:p.f0.toList≠[]:=by
  intro h0
  have:=(Qpn p.f0).1 h0
  omega
 unfold chk
 rw[if_neg hne,if_neg (by omega),if_neg (by simp),if_neg (by omega)]
theorem Qsp:∀(n:Nat) {ps:List Pr},(∀p∈ps,okP p)→chkL (Qsn n ps)=0
 | _,[],_=>rfl
 | n,p :: t,h=>by
  have h1:chkR ⟨false,(n:Int),p.f0,p.f1⟩=0:=chk_ok (h p (List.mem_cons_self ..))
  have h2:=Qsp (n+1) (ps:=t) (fun q hq=>h q (List.mem_cons_of_mem _ hq))
  show chkL (_ :: Qsn (n+1) t)=0
  unfold chkL
  simp[h1,h2]
theorem Qsq:∀(n:Nat) (ps:List Pr),ordL (Qsn n ps)=0
 | _,[]=>rfl
 | _,[p]=>rfl
 | n,p :: q :: t=>by
  have h2:=Qsq (n+1) (q :: t)
  show ordL (_ :: _ :: Qsn (n+2) t)=0
  have h3:ordL ((⟨false,((n+1:Nat):Int),q.f0,q.f1⟩:Rec) :: Qsn (n+2) t)=0:=h2
  unfold ordL
  simp only
  rw[if_neg (by omega)]
  exact h3
theorem Qsr(n:Nat){ps:List Pr}(h:∀p∈ps,okP p):risL (Qsn n ps)=0:=by
 unfold risL
 rw[if_pos (Qsp n h),Qsq]
theorem Qss:∀(n:Nat) (ps:List Pr),n+ps.length<18446744073709551616→Wf (Qsn n ps)
 | _,[],_=>by simp[Qsn,Wf]
 | n,p :: t,h=>by
  simp only[List.length_cons]at h
  intro r hr
  rcases List.mem_cons.1 (show r∈_ :: Qsn (n+1) t from hr)with rfl|hr
  ·dsimp only;omega
  ·exact Qss (n+1) t (by omega) r hr
theorem fsz_few(n:Nat)(p:Pr)(hs:szP p≤600):1≤fsz ⟨false,(n:Int),p.f0,p.f1⟩∧fsz ⟨false,(n:Int),p.f0,p.f1⟩≤(szP p:Int)+31:=by
 unfold fsz Qqw
 have h1:=Qqy (Qlh false (n:Int) p.f0 p.f1)
 have h2:=Qrl (Qlh false (n:Int) p.f0 p.f1)
 have h3:=Qqx false (n:Int) p.f0 p.f1
 unfold szP at *
 dsimp only
 omega
theorem Qst{c:Int}(h0:0≤c)(h1:c≤46):Qpw c≤700:=by
 unfold Qpw
 omega
theorem Qsu{e s:Int}(hG:Good e s):∀(ps:List Pr) (n:Nat) (out:List Int) (u c:Int),(∀p∈ps,okP p)→0≤c→0≤u→u+(Qsk ps:Int)+31*ps.length≤2200→c+(ps.length:Int)≤46→Qsk ps≤600 →
  (Qqk e s ((Qsn n ps).map fsz) out 0 u c).2=0
 | [],n,out,u,c,_,_,_,_,_,_=>rfl
 | p :: t,n,out,u,c,hp,hc,hu,hs,hl,h6=>by
  have hz:=Qpz hG.1 hG.2.1
  simp only[Qsk,List.length_cons]at hs hl h6
  have hx:=fsz_few n p (by omega)
  have hh:=Qpu e s (s-1)
  show(Qqk e s (fsz _ :: (Qsn (n+1) t).map fsz) out 0 u c).2=0
  generalize fsz ⟨false,(n:Int),p.f0,p.f1⟩=x at *
  unfold Qqk
  have m1:=Qst (c:=0+1) (by omega) (by omega)
  have m2:=Qst (c:=c+1) (by omega) (by omega)
  have f1:Qqd e (Qps e s (s-1)) 0 x=true:=by
   simp only[Qqd,decide_eq_true_eq]
   omega
  have f2:Qqd e u c x=true:=by
   simp only[Qqd,decide_eq_true_eq]
   omega
  rw[if_neg (by rw[f1];decide),if_pos f2]
  exact Qsu hG t (n+1) _ _ _ (fun q hq=>hp q (List.mem_cons_of_mem _ hq)) (by omega) (by omega) (by omega) (by omega) (by omega)
theorem Qsv{e s:Int}(hG:Good e s){ps:List Pr}(hp:∀p∈ps,okP p)(h6:Qsk ps≤600):(Qre e s (Qsn 1 ps)).2.2=0:=by
 have hl:=Qsm hp
 have hh:=Qpu e s 0
 unfold Qre
 rw[if_pos (show 12≤e∧e≤24∧1≤s∧s≤65536 from hG),if_pos (Qsr 1 hp)]
 exact Qsu hG ps 1 [] _ 0 hp (by omega) (by omega) (by omega) (by omega) h6
theorem Qsw:∀(n:Nat) (a:List Pr) (p:Pr),Qsn n (a++[p])=Qsn n a++[⟨false,((n+a.length:Nat):Int),p.f0,p.f1⟩]
 | n,[],p=>rfl
 | n,q :: t,p=>by
  show _ :: Qsn (n+1) (t++[p])=_
  rw[Qsw (n+1) t p]
  simp only[Qsn,List.cons_append,List.length_cons]
  rw[show n+1+t.length=n+(t.length+1)by omega]
theorem rdP(l:List Pr)(i:Nat)(h:i<l.length):Qhx l (i:Int)=l[i]:=by simp[Qhx,List.getElem?_eq_getElem h]
theorem Qsx(ps:List Pr)(hl:ps.length≤1000000):∀(d i k:Nat),i+d=ps.length→d+1≤k→Qbd.l0 k (Qsn 1 (ps.take i)) ps (ps.length:Int) (i:Int)=some (Qsn 1 ps)
 | 0,i,k,h,hk=>by
  obtain⟨k,rfl⟩:∃m,k=m+1:=⟨k-1,by omega⟩
  unfold Qbd.l0
  rw[if_neg (by omega),List.take_of_length_le (by omega)]
 | d+1,i,k,h,hk=>by
  obtain⟨k,rfl⟩:∃m,k=m+1:=⟨k-1,by omega⟩
  unfold Qbd.l0
  have hi:i<ps.length:=by omega
  have hlen:(Qsn 1 (ps.take i)).length=i:=by rw[Qso,List.length_take];omega
  rw[if_pos (by omega),if_pos (by omega),if_pos (by omega),if_pos (by rw[hlen];omega),rdP ps i hi,show wrap64 ((i:Int)+1)=((i+1:Nat):Int)by unfold wrap64;omega]
  have e:Qsn 1 (ps.take i)++[(⟨false,IntKind.u64.wrap ((IntKind.u64.wrap (i:Int))+1),ps[i].f0,ps[i].f1⟩:Rec)]=Qsn 1 (ps.take (i+1)):=by
   rw[List.take_succ_eq_append_getElem hi,Qsw,List.length_take,IntWalk.u64_in (i:Int) (by omega),IntWalk.u64_in _ (by omega),Nat.min_eq_left (by omega)]
   rw[show((1+i:Nat):Int)=(i:Int)+1 by omega]
  rw[e]
  exact Qsx ps hl d (i+1) k (by omega) (by omega)
theorem Qsy(ps:List Pr)(k:Nat)(hl:ps.length≤1000000)(hk:ps.length+1≤k):Qbd.f k ps=some (Qsn 1 ps):=Qsx ps hl ps.length 0 k (by omega) (by omega)
theorem Qsz{l:List Int}(hb:Bytes l)(hl:l.length≤100000000):Qan.f l=some (allL l (l.length+1) 0 []):=by
 unfold Qan.f
 exact if_pos ⟨bytes_all.2 hb,hl⟩
theorem Qta{l:List Int}(hb:Bytes l){ps:List Pr}{j er:Int}(h:allL l (l.length+1) 0 []=(ps,j,er)) :
  j=(Qsk ps:Int)∧Qsk ps≤l.length∧(∀p∈ps,okP p)∧(er=0∨er=2∨er=3∨er=4∨er=5)∧(er=0→Qsk ps=l.length):=by
 obtain⟨more,e1,e2,e3,e4,e5,e6⟩:=Qsl hb _ _ _ _ _ _ (Nat.zero_le _) h (by omega)
 rw[List.nil_append]at e1
 subst e1
 rw[Nat.zero_add]at e2 e3 e6
 exact⟨e2,e3,e4,e5,e6⟩
theorem Qtb{e s:Int}(hG:Good e s){l:List Int}(hb:Bytes l)(hl:l.length≤1000000){ps:List Pr}{j er:Int}(h:allL l (l.length+1) 0 []=(ps,j,er))(k:Nat)(hk:l.length+1≤k) :
  Qbe.f k e s l=if er=0 then(Qba.f k e s (Qsn 1 ps)).bind (fun t=>some (t.1,0,t.2))else some ([],j,er):=by
 obtain⟨h1,h2,h3,h4,h5⟩:=Qta hb h
 have h6:=Qsm h3
 unfold Qbe.f
 rw[Qpx hG,Option.bind_some,if_pos rfl,Qsz hb (by omega),h,Option.bind_some]
 dsimp only
 by_cases h0:er=0
 ·rw[if_pos h0,if_pos h0,Qsy ps k (by omega) (by omega),Option.bind_some]
 ·rw[if_neg h0,if_neg h0]
theorem Qtc{e s:Int}(hG:¬Good e s)(l:List Int)(k:Nat):Qbe.f k e s l=some ([],0,1):=by
 unfold Qbe.f
 rw[Qpy hG,Option.bind_some,if_neg (by decide)]
theorem Qtd{e s:Int}(hG:Good e s){l:List Int}(hb:Bytes l)(hl:l.length≤1000000){ps:List Pr}{j er:Int}(h:allL l (l.length+1) 0 []=(ps,j,er))(k:Nat)(hk:l.length+1≤k) :
  Qbc.f k e s l=(Qba.f k e s (Qsn 1 ps)).bind (fun t=>if t.2=0 then some (t.1,(ps.length:Int),j,0)else some ([],0,0,t.2)):=by
 obtain⟨h1,h2,h3,h4,h5⟩:=Qta hb h
 have h6:=Qsm h3
 unfold Qbc.f
 rw[Qpx hG,Option.bind_some,if_pos rfl,Qsz hb (by omega),h,Option.bind_some]
 dsimp only
 rw[Qsy ps k (by omega) (by omega),Option.bind_some]
theorem Qte{e s:Int}(hG:¬Good e s)(l:List Int)(k:Nat):Qbc.f k e s l=some ([],0,0,1):=by
 unfold Qbc.f
 rw[Qpy hG,Option.bind_some,if_neg (by decide)]
theorem Qtf:Good 12 1:=by unfold Good;omega
theorem Qtg(k:Nat)(hk:100≤k):Qas.f k=some true:=by
 have hw:Wf (Qsn 1 []):=by simp[Qsn,Wf]
 obtain⟨fin,h1,h2,h3,h4,h5⟩:=Qsi 12 1 (Qsn 1 []) k (by simp[Qsn]) hw (by simp[Qsn];omega) (Qsv Qtf (ps:=[]) (by simp) (by simp[Qsk]))
 have h6:fin=[]:=List.eq_nil_of_length_eq_zero (by rw[h4];rfl)
 subst h6
 unfold Qas.f
 rw[Qtb Qtf (l:=[]) (by simp[Bytes]) (by simp) (ps:=[]) (j:=0) (er:=0) rfl k qq_13,if_pos rfl,h1]
 rfl
end Go.Proofs.YtnnofopfbeklbaaGreat.CodecP
end
section
namespace Go.Proofs.YtnnofopfbeklbaaGreat.Pure
open Go.RowKit Go.Proofs.YtnnofopfbeklbaaGreat.C Go.Proofs.YtnnofopfbeklbaaGreat.CodecP Go.Proofs.YtnnofopfbeklbaaGreatW.PrintWords Go.Proofs.YtnnofopfbeklbaaGreatW.PrintLast Go.Proofs.YtnnofopfbeklbaaGreatW.PrintMore Go.Proofs.YtnnofopfbeklbaaGreat.Open
theorem Qth{l:List Int}(h:∀z∈l,(Lit.int .u8 z).wf=true):Bytes l:=by
 intro x hx
 have h1:=h x hx
 simp only[Lit.wf,IntKind.min,IntKind.max,IntKind.signed,IntKind.bits,Bool.and_eq_true,decide_eq_true_eq]at h1
 simp at h1
 omega
theorem MigrateErrors:Qar.Pure:=by
 intro c l hc hl
 have hb:=Qth hl.2
 obtain⟨K,hK⟩:∃K:Nat,K=l.length+1000:=⟨_,rfl⟩
 refine⟨K+1,?_⟩
 unfold Qar.f
 rw[Qtg _ (by omega),Option.bind_some,if_pos rfl,Qar.j0]
 by_cases h6:l.length≤600
 ·rw [if_neg qq_13]
  by_cases hG:CodecP.Good c.f0 c.f1
  ·cases hA:allL l (l.length+1) 0 []with
   | mk ps q =>
    obtain⟨j,er⟩:=q
    obtain⟨g1,g2,g3,g4,g5⟩:=Qta hb hA
    have g6:=Qsm g3
    rw[Qtb hG hb (by omega) hA K (by omega),Qtd hG hb (by omega) hA K (by omega)]
    obtain⟨fin,h1,_⟩:=Qsi c.f0 c.f1 (Qsn 1 ps) K (by rw[Qso];omega) (Qss 1 ps (by omega)) (by rw[Qso];omega) (Qsv hG g3 (by omega))
    rw[h1]
    have hG':=hG
    unfold CodecP.Good at hG'
    by_cases h0:er=0
    ·rw[if_pos h0]
     simp only[Option.bind_some,if_true]
     rw[if_neg (by omega),if_neg (by omega),if_neg (by omega),if_neg (by omega),if_neg (by decide)]
     simp
    ·rw[if_neg h0]
     simp only[Option.bind_some,if_true]
     rw[if_neg (by omega),if_neg (by omega),if_neg (by omega),if_neg (by omega),if_neg (by omega),if_neg h0]
  ·rw [Qtc hG,Qte hG]
   unfold CodecP.Good at hG
   have hz:(some (wrap64 (wrap64 (wrap64 (wrap64 ((([]:List Int).length:Int)+(([]:List Int).length:Int))+0)+0)+0) == 0):Option Bool)=some true:=by simp[wrap64]
   simp only[Option.bind_some,if_true]
   split
   ·exact hz
   ·split
    ·exact hz
    ·split
     ·exact hz
     ·split
      ·exact hz
      ·exact absurd (by omega) hG
 ·rw[if_pos qq_13,Qtg _ (by omega)]
  rfl
end Go.Proofs.YtnnofopfbeklbaaGreat.Pure
end
