/- Merged texts. -/
import Derived.Test.YteaocbonofboeaaGreatMD18
import Derived.Test.YteaocbonofboeaaGreatMD17
import Derived.Test.YteaocbonofboeaaGreatMD14
import Derived.Test.YteaocbonofboeaaGreatMD02
import Derived.WalkLawsBesides
import Derived.Recover
import Derived.Defers
import Derived.Test.YteaocbonofboeaaGreatMD12
import Derived.Test.YteaocbonofboeaaGreatMD06
import Derived.Test.YteaocbonofboeaaGreatMD08
import Derived.Test.YteaocbonofboeaaGreatMD09
import Derived.Test.YteaocbonofboeaaGreatMD10
import Derived.Test.YteaocbonofboeaaGreatMD07
set_option linter.unusedVariables false
set_option linter.unusedSimpArgs false
set_option maxHeartbeats 8000000
set_option maxRecDepth 100000
section
namespace Go.Proofs.YteaocbonofboeaaGreat.CodecP
open Go.RowKit Go.Proofs.YteaocbonofboeaaGreat.C Go.Proofs.YteaocbonofboeaaGreatW.PrintWords Go.Proofs.YteaocbonofboeaaGreatW.PrintLast Go.Proofs.YteaocbonofboeaaGreatW.PrintMore
theorem Qxe:∀(n:Nat) (b:List Int),b.length≤n→(Qjq b).length≤b.length+1+(b.length-1)/254
 | n,b,hn=>by
  rcases Int.lt_or_le (ixOf (b.take 254) 0) 0 with h0|h0
  ·by_cases hl:254<b.length
   ·rw[Qju h0 hl]
    match n,hn with
    | 0,hn=>omega
    | n+1,hn =>
     have ih:=Qxe n (b.drop 254) qq_24;rw[List.length_drop]at ih;rw[List.length_cons,List.length_append,List.length_take];omega
   ·rw[Qjv h0 hl,List.length_cons];omega
  ·obtain⟨p,hp⟩:=Int.eq_ofNat_of_zero_le h0;have h1:=(Qjo (b.take 254) 0).2;rw[List.length_take,hp]at h1;rw[Qjt hp]
   match n,hn with
   | 0,hn=>omega
   | n+1,hn =>
    have ih:=Qxe n (b.drop (p+1)) qq_24;rw[List.length_drop]at ih;rw[List.length_cons,List.length_append,List.length_take];omega
theorem Qxf(b:List Int):(Qla b).length≤b.length+8+1+(b.length+8-1)/254+1:=by
 have h:=Qxe _ (b++leb (Qkt 0 b) 8) (Nat.le_refl _);rw[List.length_append,Qiq]at h;unfold Qla;rw[List.length_append];simp;omega
theorem Qxg(l:List Ent):(Qmk l).length=(l.length+15)/16:=by simp[Qmk,chN]
theorem Qxh(u:Int)(l:List Ent):((Qnp u l).length:Int)≤Qtq (l.length:Int):=by
 have h:=Qxf ([4]++leb l.length 4++leb u 4++l.flatMap ent++(Qmk l).flatMap (fun x=>leb x 8));have h2:=Qnu (l.length:Int) u l;rw[List.nil_append]at h2;rw[h2,Qxg]at h;unfold Qnp Qtq;obtain⟨c,hc⟩:∃c,c=(l.length+15)/16:=⟨_,rfl⟩;have hcI:((l.length:Int)+15)/16=(c:Int):=by omega
 rw[hcI];rw[← hc]at h;clear hc hcI h2;obtain⟨g,hg⟩:∃g,g=(9+12*l.length+8*c+8-1)/254:=⟨_,rfl⟩;have hgI:(9+12*(l.length:Int)+8*(c:Int)+8-1)/254=(g:Int):=by omega
 rw[hgI];rw[← hg]at h;clear hg hgI;omega
theorem Qxi(x y z:Ent)(h1:(!(ltOf cfE) y x)=true)(h2:(!(ltOf cfE) z y)=true):(!(ltOf cfE) z x)=true:=by
 rw[Qmw]at *;simp at *;omega
theorem Qxj(x y:Ent):((!(ltOf cfE) y x) ||(!(ltOf cfE) x y))=true:=by
 rw[Qmw,Qmw];simp;omega
theorem Qxk(l:List Ent):(Qmu l).Pairwise (fun x y=>(!(ltOf cfE) y x)=true):=List.pairwise_mergeSort Qxi Qxj l
theorem Qxl:∀(l:List Ent),l.Pairwise (fun x y=>(!(ltOf cfE) y x)=true)→l.Nodup→Qnh l=true
 | [],_,_=>rfl
 | [_],_,_=>rfl
 | a :: b :: t,hp,hn=>by
  have hp2:=List.pairwise_cons.1 hp;have hn2:=List.pairwise_cons.1 hn;have ih:=Qxl (b :: t) hp2.2 hn2.2;have h1:=hp2.1 b (by simp);have h2:=hn2.1 b (by simp);have h3:ltOf cfE a b=true:=by
   cases h:ltOf cfE a b with
   | true=>rfl
   | false=>exact absurd (totE a b h (by simpa using h1)) h2
  unfold Qnh ltE;rw[ih]
  simpa [ltOf]using h3
theorem Qxm{l:List Ent}(h:l.Nodup):Qnh (Qmu l)=true:=Qxl _ (Qxk l) ((Qne l).nodup_iff.2 h)
def okB(e s n:Int)(i:Nat)(B:Bd):Prop :=
 B.1=(e,s,n,(B.2.1.length:Int),(B.2.2.length:Int))∧B.2.2.length≤i∧(∀x∈B.2.2,wfE x∧x.f1<(B.2.1.length:Int))∧B.2.2.Pairwise (fun x y=>x.f1<y.f1)∧(B.2.1.length:Int)≤16777216
def putB(e s n:Int)(B:Bd)(r:Rec):Bd :=
 ((e,s,n,((B.2.1++Qup r).length:Int),((B.2.2.length+1:Nat):Int)),B.2.1++Qup r,B.2.2++[⟨Qkt 0 (bytesOf r.f2),(B.2.1.length:Int)%4294967296⟩])
def freshB(e s n:Int):Bd:=((e,s,n,Qtm e s n,0),Qlf e s n,[])
theorem Qxn{e s:Int}(h:Good e s)(n:Int)(h0:0≤n)(h1:n<s):newB e s n=some (freshB e s n):=by
 unfold newB;rw[Quc h n h0 h1,Option.bind_some,Qub h n h0 h1,Option.bind_some];simp[freshB]
theorem Qxo(e s n:Int)(i:Nat):okB e s n i (freshB e s n):=by
 have:=Qto e s n;refine⟨by simp[freshB,Qtm],by simp[freshB],by simp[freshB],by simp[freshB],?_⟩;unfold Qtm at this;simp only[freshB];omega
theorem Qxp{e s:Int}(h:Good e s){x:Int}(hx1:x≤1152921504606846976)(hf:Qtx e (Qtm e s (s-1)) 0 x=true):Qbr.f e s x=some false:=by
 have hr:=Qto e s (s-1);have hg:=h;obtain⟨g1,g2,g3,g4⟩:=hg;unfold Qbr.f;rw[show(s-1)%4294967296=s-1 by omega,Quc h (s-1) (by omega) (by omega),Option.bind_some];dsimp only;rw[if_pos rfl,Qty h _ _ _ _ (by omega) (by omega) (by omega) (by omega) hx1,hf];rfl
theorem Qxq{e s n:Int}(h:Good e s){i:Nat}{B:Bd}{r:Rec}(hB:okB e s n i B)(hi:i≤1000000)(hc:chkR r=0)(hw:0≤r.f1∧r.f1<18446744073709551616)
  (hl:Qtx e (Qtm e s (s-1)) 0 (fsz r)=true) (hf:Qtx e (B.2.1.length:Int) (B.2.2.length:Int) (fsz r)=true) :
  addB B r=some (putB e s n B r)∧okB e s n (i+1) (putB e s n B r)∧((putB e s n B r).2.1.length:Int)+Qtq ((putB e s n B r).2.2.length:Int)≤szN e∧(putB e s n B r).2.2≠[]:=by
 obtain⟨b1,b2,b3,b4,b5⟩:=hB;have hx:=Qus r hc;have hft:=Qtz hf;have hsz:=Qtt h.1 h.2.1;have hm:=Qtw ((B.2.2.length:Int)+1) (by omega) (by omega);have hlen:((B.2.1++Qup r).length:Int)=(B.2.1.length:Int)+fsz r:=by rw[List.length_append];unfold fsz;omega
 have hh:=Qkz 0 (bytesOf r.f2);have hmod:(B.2.1.length:Int)%4294967296=(B.2.1.length:Int):=by omega
 refine⟨?_,⟨?_,?_,?_,?_,?_⟩,?_,?_⟩
 ·unfold addB;rw[if_pos (show chk r.f0 r.f2 r.f3=0 from hc),Qut r hc hw.1 hw.2,Option.bind_some,b1];dsimp only;rw[show((Qup r).length:Int)=fsz r from rfl,Qxp h (by omega) hl,Option.bind_some,Qua h n _ _ _ (by omega) (by omega) (by omega) (by omega) (by omega) hf,Option.bind_some];dsimp only;rw[if_pos ⟨rfl,rfl,rfl,by have hfz:((Qup r).length:Int)=fsz r:=rfl;omega,by omega⟩];unfold putB;rw[hlen];simp
 ·simp[putB]
 ·simp only[putB,List.length_append,List.length_cons,List.length_nil];omega
 ·intro x hxm;simp only[putB]at hxm ⊢;rw[hlen]
  rcases List.mem_append.1 hxm with hm' | hm'
  ·have:=b3 x hm';exact⟨this.1,by omega⟩
  ·simp only[List.mem_singleton]at hm';subst hm';rw[hmod];exact⟨⟨hh,(show(0:Int)≤(B.2.1.length:Int)by omega),(show(B.2.1.length:Int)<4294967296 by omega)⟩,by dsimp only;omega⟩
 ·simp only[putB];rw[List.pairwise_append];refine⟨b4,by simp,?_⟩;intro x hx y hy;simp only[List.mem_singleton]at hy;subst hy;rw[hmod];exact(b3 x hx).2
 ·simp only[putB];rw[hlen];omega
 ·simp only[putB];rw[hlen,List.length_append];simp only[List.length_cons,List.length_nil];have:(((B.2.2.length+(0+1):Nat)):Int)=(B.2.2.length:Int)+1:=by omega
  rw[this];omega
 ·simp[putB]
theorem Qxr(u:Int){l:List Ent}(h:∀x∈l,x.f1<u):(Qmu l).any (fun x=>decide (u≤x.f1))=false:=by
 rw[List.any_eq_false];intro x hx;have:=h x ((Qne l).mem_iff.1 hx);simp;omega
theorem Qxs{l:List Ent}(h:l.Pairwise (fun x y=>x.f1<y.f1)):l.Nodup:=h.imp (fun {a b} hab he=>by subst he;omega)
theorem Qxt{e s n:Int}(h:Good e s){i:Nat}{B:Bd}(hB:okB e s n i B)(hi:i≤1000000)(hne:B.2.2≠[])(hr:(B.2.1.length:Int)+Qtq (B.2.2.length:Int)≤szN e) :
  ∃o,Qnx B=some o∧o.length=(szN e).toNat∧B.2.1 <+: o:=by
 obtain⟨b1,b2,b3,b4,b5⟩:=hB;have hsz:=Qtt h.1 h.2.1;have hu:Qnw B=(B.2.1.length:Int):=by unfold Qnw;omega
 have hfl:=Qxh (Qnw B) (Qmu B.2.2);rw[Qmv]at hfl;have hn0:B.2.2.length≠0:=fun he=>hne (List.eq_nil_of_length_eq_zero he)
 have hck:Qnm (Qnw B) (Qmu B.2.2)=0:=by
  unfold Qnm;rw[Qmv,if_neg hn0,if_neg (by omega),Qxm (Qxs b4),if_neg (by simp),Qxr _ (fun x hx=>by rw[hu];exact(b3 x hx).2),if_neg (by simp)]
 unfold Qnx;rw[b1];dsimp only;rw[Qtu h,Option.bind_some,if_pos ⟨hn0,by omega,fun x hx=>(b3 x hx).1,hck,by omega,by omega⟩];refine⟨_,rfl,?_,?_⟩
 ·rw[List.length_append,List.length_replicate,List.length_append];omega
 ·rw[List.append_assoc];exact List.prefix_append _ _
theorem Qxu{e s n:Int}(h:Good e s){i:Nat}{B:Bd}(hB:okB e s n i B)(hr:(B.2.1.length:Int)≤szN e) :
  ∃o,Qny B=some o∧o.length=(szN e).toNat∧B.2.1 <+: o:=by
 obtain⟨b1,b2,b3,b4,b5⟩:=hB;have hsz:=Qtt h.1 h.2.1;unfold Qny;rw[b1];dsimp only;rw[Qtu h,Option.bind_some,if_pos ⟨by omega,by omega⟩];refine⟨_,rfl,?_,List.prefix_append _ _⟩;rw[List.length_append,List.length_replicate];omega
theorem Qxv(e s:Int):∀(l out:List Int) (n u c:Int),(Que e s l out n u c).2=0→out <+: (Que e s l out n u c).1
 | [],out,n,u,c,h=>by unfold Que;exact List.prefix_rfl
 | x :: t,out,n,u,c,h=>by
  unfold Que at h ⊢
  by_cases hf:Qtx e (Qtm e s (s-1)) 0 x=false
  ·rw[if_pos hf]at h;cases h
  ·rw[if_neg hf]at h ⊢
   by_cases hq:Qtx e u c x=true
   ·rw[if_pos hq]at h ⊢;exact(List.prefix_append _ _).trans (Qxv e s t _ _ _ _ h)
   ·rw[if_neg hq]at h ⊢
    by_cases hs:n+1<s
    ·rw[if_pos hs]at h ⊢;exact(List.prefix_append _ _).trans (Qxv e s t _ _ _ _ h)
    ·rw[if_neg hs]at h;cases h
theorem Qxw{into:List Int}{i:Nat}{x:Int}(h:into.take i++[x] <+: into)(hi:i<into.length):rd into (i:Int)=x∧into.take (i+1)=into.take i++[x]:=by
 obtain⟨t,ht⟩:=h;have h1:=congrArg (fun l=>l[i]?) ht;have h2:(into.take i).length=i:=by rw[List.length_take];omega
 have h3:(into.take i++[x]++t)[i]? = some x:=by
  rw[List.append_assoc,List.getElem?_append_right (by omega),h2,Nat.sub_self];rfl
 rw[h3]at h1;refine⟨?_,?_⟩
 ·rw[rd_get hi];have h4:=List.getElem?_eq_getElem hi;rw[← h1]at h4;exact(Option.some.inj h4).symm
 ·rw[List.take_add_one,← h1];rfl
theorem Qxx{e s n:Int}(h:Good e s)(h1:n<s):n.toNat*(szN e).toNat+(szN e).toNat≤lim:=by
 have hsz:=Qtt h.1 h.2.1;obtain⟨g1,g2,g3,g4⟩:=h;have:(n.toNat+1)*(szN e).toNat≤65536*16777216:=Nat.mul_le_mul (by omega) (by omega);rw[Nat.add_mul,Nat.one_mul]at this;unfold lim;omega
theorem Qxy(e s:Int)(l:List Rec)(k:Nat)(hl:l.length≤1000000)(hw:Wf l)(hk:2*l.length+10≤k)(h:(Qux e s l).2.2≠0):Qbk.f k e s l=some ([],(Qux e s l).2.2):=by
 unfold Qbk.f;rw[Quz e s l k hl hw hk,Option.bind_some,if_neg h]
theorem Qxz(l:List Ent)(hw:∀x∈l,wfE x):∀x∈Qmk l,0≤x∧x<18446744073709551616:=by
 intro x hx;unfold Qmk chN at hx;obtain⟨j,hj,rfl⟩:=List.mem_map.1 hx;rw[List.mem_range]at hj;have h1:j*16<l.length:=by omega
 unfold Qmj;rw[rdE l _ h1];exact(hw _ (List.getElem_mem h1)).1
def Qya(e s n:Int):Bd→List Rec→Bd
 | B,[]=>B
 | B,r :: t=>Qya e s n (putB e s n B r) t
def Qyb(B:Bd)(b:Bool):List Int:=B.2.1++(if b=true then Qnp (Qnw B) (Qmu B.2.2)else [])
def Qyc(e s n:Int)(g:List Rec):Bd:=Qya e s n (freshB e s n) g
def segB(e s n:Int)(g:List Rec)(b:Bool):List Int:=Qyb (Qyc e s n g) b++List.replicate ((szN e).toNat-(Qyb (Qyc e s n g) b).length) 255
def imgP(e s:Int):Int→List (List Rec)→List Int
 | _,[]=>[]
 | n,[g]=>segB e s n g false
 | n,g :: h :: t=>segB e s n g true++imgP e s (n+1) (h :: t)
def Qyd(into:List Int):Nat→List Rec→List Rec→List (List Rec)
 | _,[],cur=>[cur]
 | i,r :: rs,cur=>if rd into (i:Int)=rd into ((i:Int)-1)then Qyd into (i+1) rs (cur++[r])else cur :: Qyd into (i+1) rs [r]
theorem Qye(into:List Int):∀(rs:List Rec) (i:Nat) (cur:List Rec),∃g t,Qyd into i rs cur=g :: t
 | [],i,cur=>⟨cur,[],rfl⟩
 | r :: rs,i,cur=>by
  unfold Qyd;split
  ·exact Qye into rs (i+1) _
  ·exact⟨_,_,rfl⟩
theorem Qyf(into:List Int):∀(rs:List Rec) (i:Nat) (cur:List Rec),(Qyd into i rs cur).flatten=cur++rs
 | [],i,cur=>by simp[Qyd]
 | r :: rs,i,cur=>by
  unfold Qyd;split
  ·rw[Qyf into rs];simp
  ·rw[List.flatten_cons,Qyf into rs];simp
theorem Qyg(e s n:Int):∀(g:List Rec) (B:Bd) (r:Rec),Qya e s n B (g++[r])=putB e s n (Qya e s n B g) r
 | [],_,_=>rfl
 | x :: g,B,r=>by
  show Qya e s n (putB e s n B x) (g++[r])=_;rw[Qyg e s n g];rfl
theorem Qyh(e s n:Int):∀(g:List Rec) (B:Bd),(Qya e s n B g).2.1=B.2.1++g.flatMap Qup
 | [],B=>by simp[Qya]
 | x :: g,B=>by
  show(Qya e s n (putB e s n B x) g).2.1=_;rw[Qyh e s n g,List.flatMap_cons];simp[putB]
theorem Qyi(e s n:Int):∀(g:List Rec) (B:Bd),(Qya e s n B g).2.2.length=B.2.2.length+g.length
 | [],B=>by simp[Qya]
 | x :: g,B=>by
  show(Qya e s n (putB e s n B x) g).2.2.length=_;rw[Qyi e s n g];simp[putB];omega
def Qyj(e s n:Int)(g:List Rec):Prop:=0≤n∧n<s∧okB e s n 1000000 (Qyc e s n g)∧g≠[]∧((Qyc e s n g).2.1.length:Int)+Qtq ((Qyc e s n g).2.2.length:Int)≤szN e
def AllG(e s:Int):Int→List (List Rec)→Prop
 | _,[]=>True
 | n,g :: t=>Qyj e s n g∧AllG e s (n+1) t
def Qyk(into:List Int):Nat→Nat→Int→Prop
 | 0,i,_=>i=into.length
 | d+1,i,n=>i<into.length∧((rd into (i:Int)=n∧Qyk into d (i+1) n)∨(rd into (i:Int)=n+1∧Qyk into d (i+1) (n+1)))
theorem Qyl{B:Bd}{o:List Int}{sz:Int}(h:Qnx B=some o)(hs:Qaq.f B.1.1 B.1.2.1=some sz):o=Qyb B true++List.replicate (sz.toNat-(Qyb B true).length) 255:=by
 unfold Qnx at h;rw[hs,Option.bind_some]at h;split at h
 ·cases h
  rfl
 ·cases h
theorem Qym{B:Bd}{o:List Int}{sz:Int}(h:Qny B=some o)(hs:Qaq.f B.1.1 B.1.2.1=some sz):o=Qyb B false++List.replicate (sz.toNat-(Qyb B false).length) 255:=by
 unfold Qny at h;rw[hs,Option.bind_some]at h;split at h
 ·cases h
  simp[Qyb]
 ·cases h
theorem Qyn{e s n:Int}{i j:Nat}{B:Bd}(h:okB e s n i B)(hij:i≤j):okB e s n j B:=⟨h.1,by have:=h.2.1;omega,h.2.2⟩
theorem part_ne{e s n:Int}{g:List Rec}:(Qyc e s n g).2.2≠[]↔g≠[]:=by
 have h:=Qyi e s n g (freshB e s n);have h0:(freshB e s n).2.2.length=0:=rfl;unfold Qyc;rw[← List.length_pos_iff,← List.length_pos_iff,h,h0];omega
theorem enc_img{e s:Int}(hG:Good e s)(l:List Rec)(into:List Int)(hl:l.length≤1000000)(hw:Wf l)(hc:chkL l=0)(hil:into.length=l.length) :
  ∀(d i:Nat) (out:List Int) (n:Int) (cur:List Rec),i+d=l.length→1≤i→okB e s n i (Qyc e s n cur)→cur≠[]→((Qyc e s n cur).2.1.length:Int)+Qtq ((Qyc e s n cur).2.2.length:Int)≤szN e→0≤n→n<s→out.length=n.toNat*(szN e).toNat→rd into ((i:Int)-1)=n →
  Que e s ((l.drop i).map fsz) (into.take i) n ((Qyc e s n cur).2.1.length:Int) ((Qyc e s n cur).2.2.length:Int)=(into,0) →
  encG e s into i (l.drop i) out (some (Qyc e s n cur))=some (out++imgP e s n (Qyd into i (l.drop i) cur))∧AllG e s n (Qyd into i (l.drop i) cur)∧Qyk into d i n:=by
 have hsz:=Qtt hG.1 hG.2.1;have hsize:∀ {m:Int} {i:Nat} {B:Bd},okB e s m i B→Qaq.f B.1.1 B.1.2.1=some (szN e):=fun h=>by rw[h.1];exact Qtu hG
 intro d
 induction d with
 | zero =>
  intro i out n cur hd hi hB hne hr h0 h1 ho hprev hp;have hi':i=into.length:=by omega
  have hmm:=Qtw ((Qyc e s n cur).2.2.length:Int) (by omega) (by have:=hB.2.1;omega);obtain⟨o,e1,e2,t,e3⟩:=Qxu hG hB (by omega);have hlim:=Qxx hG h1;have hv:=Qym e1 (hsize hB);rw[List.drop_of_length_le (by omega)];refine⟨?_,⟨⟨h0,h1,Qyn hB (by omega),hne,hr⟩,trivial⟩,hi'⟩;unfold encG;rw[e1,Option.bind_some,if_pos (by omega),hv];rfl
 | succ d ihd =>
  intro i out n cur hd hi hB hne hr h0 h1 ho hprev hp;have hlt:i<l.length:=by omega
  have hlt2:i<into.length:=by omega
  have hcr:chkR l[i]=0:=Quj hc _ (List.getElem_mem hlt);have hwr:=hw l[i] (List.getElem_mem hlt);have hx:=Qus l[i] hcr;have hlen:∀q:List Int,((q++Qup l[i]).length:Int)=(q.length:Int)+fsz l[i]:=fun q=>by rw[List.length_append];unfold fsz;omega
  have hiB:=hB.2.1;have hb5:=hB.2.2.2.2;have hne2:(Qyc e s n cur).2.2≠[]:=part_ne.2 hne;rw[List.drop_eq_getElem_cons hlt]at hp ⊢;rw[List.map_cons]at hp;unfold Que at hp
  by_cases hf:Qtx e (Qtm e s (s-1)) 0 (fsz l[i])=false
  ·rw[if_pos hf]at hp;cases hp
  ·rw [if_neg hf]at hp;have hft:Qtx e (Qtm e s (s-1)) 0 (fsz l[i])=true:=by simpa using hf
   by_cases hq:Qtx e ((Qyc e s n cur).2.1.length:Int) ((Qyc e s n cur).2.2.length:Int) (fsz l[i])=true
   ·rw[if_pos hq]at hp;obtain⟨q1,q2⟩:=Qxw (by have:=Qxv e s _ _ _ _ _ (congrArg Prod.snd hp);rw[hp]at this;exact this) hlt2;obtain⟨a1,a2,a3,a4⟩:=Qxq hG hB (by omega) hcr hwr hft hq;have hpb:putB e s n (Qyc e s n cur) l[i]=Qyc e s n (cur++[l[i]]):=(Qyg e s n cur _ _).symm;have hlB:((Qyc e s n (cur++[l[i]])).2.1.length:Int)=((Qyc e s n cur).2.1.length:Int)+fsz l[i]:=by rw[← hpb];exact hlen _
    have hlT:((Qyc e s n (cur++[l[i]])).2.2.length:Int)=((Qyc e s n cur).2.2.length:Int)+1:=by rw[← hpb];simp[putB]
    rw[hpb]at a1 a2 a3;rw[← q2,← hlB,← hlT]at hp;obtain⟨f1,f2,f3⟩:=ihd (i+1) out n (cur++[l[i]]) (by omega) (by omega) a2 (by simp) a3 h0 h1 ho (by rw[show((i+1:Nat):Int)-1=(i:Int)by omega];exact q1) hp;have hps:Qyd into i (l[i] :: l.drop (i+1)) cur=Qyd into (i+1) (l.drop (i+1)) (cur++[l[i]]):=by
     rw[Qyd,if_pos (q1.trans hprev.symm)]
    rw[hps];refine⟨?_,f2,hlt2,.inl ⟨q1,f3⟩⟩;rw[encG,if_pos hlt2];rw[if_neg (by omega),if_pos (q1.trans hprev.symm),a1,Option.bind_some];exact f1
   ·rw[if_neg hq]at hp
    by_cases hs:n+1<s
    ·rw[if_pos hs]at hp;obtain⟨q1,q2⟩:=Qxw (by have:=Qxv e s _ _ _ _ _ (congrArg Prod.snd hp);rw[hp]at this;exact this) hlt2;obtain⟨o,e1,e2,t,e3⟩:=Qxt hG hB (by omega) hne2 hr;have hv:=Qyl e1 (hsize hB);have hhd:=Qto e s (n+1);have hfit:Qtx e ((freshB e s (n+1)).2.1.length:Int) ((freshB e s (n+1)).2.2.length:Int) (fsz l[i])=true:=Quf hG (by omega) (by omega) hft;obtain⟨a1,a2,a3,a4⟩:=Qxq hG (Qxo e s (n+1) i) (by omega) hcr hwr hft hfit;have hpb:putB e s (n+1) (freshB e s (n+1)) l[i]=Qyc e s (n+1) [l[i]]:=rfl;rw[hpb]at a1 a2 a3;have hlB:((Qyc e s (n+1) [l[i]]).2.1.length:Int)=Qtm e s (n+1)+fsz l[i]:=by rw[← hpb];exact hlen _
     have hlT:((Qyc e s (n+1) [l[i]]).2.2.length:Int)=1:=by rw[← hpb];simp[putB,freshB]
     rw[← q2,← hlB,← hlT]at hp;have hlim:=Qxx hG h1;have hoo:(out++o).length=(n+1).toNat*(szN e).toNat:=by
      rw[List.length_append,ho,e2,show(n+1).toNat=n.toNat+1 by omega,Nat.add_mul,Nat.one_mul]
     obtain⟨f1,f2,f3⟩:=ihd (i+1) (out++o) (n+1) [l[i]] (by omega) (by omega) a2 (by simp) a3 (by omega) hs hoo (by rw[show((i+1:Nat):Int)-1=(i:Int)by omega];exact q1) hp;have hps:Qyd into i (l[i] :: l.drop (i+1)) cur=cur :: Qyd into (i+1) (l.drop (i+1)) [l[i]]:=by
      rw[Qyd,if_neg (by rw[q1,hprev];omega)]
     rw[hps];refine⟨?_,⟨⟨h0,h1,Qyn hB (by omega),hne,hr⟩,f2⟩,hlt2,.inr ⟨q1,f3⟩⟩;rw[encG,if_pos hlt2];rw[if_neg (by omega),if_neg (by rw[q1,hprev];omega),e1,Option.bind_some,if_pos (by omega),q1,Qxn hG (n+1) (by omega) hs,Option.bind_some,a1,Option.bind_some];rw[f1,hv];obtain⟨g2,t2,hgt⟩:=Qye into (l.drop (i+1)) (i+1) [l[i]];rw[hgt];show _=some (out++(segB e s n cur true++imgP e s (n+1) (g2 :: t2)));rw[List.append_assoc];rfl
    ·rw[if_neg hs]at hp;cases hp
def Qyo(into:List Int):List Rec→List (List Rec)
 | []=>[]
 | r :: rs=>Qyd into 1 rs [r]
theorem Qyp(into:List Int)(l:List Rec):(Qyo into l).flatten=l:=by
 cases l with
 | nil=>rfl
 | cons r rs=>unfold Qyo;rw[Qyf];rfl
theorem Qyq{e s:Int}(hG:Good e s)(l:List Rec)(into:List Int)(hl:l.length≤1000000)(hw:Wf l)(hc:chkL l=0)(hil:into.length=l.length)
  (hp:Que e s (l.map fsz) [] 0 (Qtm e s 0) 0=(into,0)) :
  encG e s into 0 l [] none=some (imgP e s 0 (Qyo into l))∧AllG e s 0 (Qyo into l)∧(l≠[]→rd into 0=0∧Qyk into (l.length-1) 1 0):=by
 have hs0:=hG.2.2.1
 cases l with
 | nil=>exact⟨rfl,trivial,fun h=>absurd rfl h⟩
 | cons r t =>
  have hlt2:0<into.length:=by rw[hil];simp
  have hcr:chkR r=0:=Quj hc _ (by simp);have hwr:=hw r (by simp);have hx:=Qus r hcr;have hlen:∀q:List Int,((q++Qup r).length:Int)=(q.length:Int)+fsz r:=fun q=>by rw[List.length_append];unfold fsz;omega
  rw[List.map_cons]at hp;unfold Que at hp
  by_cases hf:Qtx e (Qtm e s (s-1)) 0 (fsz r)=false
  ·rw[if_pos hf]at hp;cases hp
  ·rw[if_neg hf]at hp;have hft:Qtx e (Qtm e s (s-1)) 0 (fsz r)=true:=by simpa using hf
   have hfit0:=Quf hG (n:=0) (by omega) (by omega) hft;rw[if_pos hfit0]at hp;obtain⟨q1,q2⟩:=Qxw (i:=0) (x:=0) (by have:=Qxv e s _ _ _ _ _ (congrArg Prod.snd hp);rw[hp]at this;exact this) hlt2;have a:rd into 0=0:=q1;have hhd:=Qto e s 0;obtain⟨a1,a2,a3,a4⟩:=Qxq hG (Qxo e s 0 0) (by omega) hcr hwr hft hfit0;have hpb:putB e s 0 (freshB e s 0) r=Qyc e s 0 [r]:=rfl;rw[hpb]at a1 a2 a3;have hlB:((Qyc e s 0 [r]).2.1.length:Int)=Qtm e s 0+fsz r:=by rw[← hpb];exact hlen _
   have hlT:((Qyc e s 0 [r]).2.2.length:Int)=1:=by rw[← hpb];simp[putB,freshB]
   have hp':Que e s (((r :: t).drop 1).map fsz) (into.take 1) 0 ((Qyc e s 0 [r]).2.1.length:Int) ((Qyc e s 0 [r]).2.2.length:Int)=(into,0):=by
    rw[hlB,hlT,q2];exact hp
   obtain⟨f1,f2,f3⟩:=enc_img hG (r :: t) into hl hw hc hil t.length 1 [] 0 [r] (by simp;omega) (by omega) a2 (by simp) a3 (by omega) (by omega) (by simp) a hp';refine⟨?_,f2,fun _=>⟨a,by simpa using f3⟩⟩;rw[encG,if_pos hlt2];rw[if_pos rfl,q1,Qxn hG 0 (by omega) (by omega),Option.bind_some,a1,Option.bind_some];exact f1
theorem Qyr(e s:Int)(l:List Rec)(k:Nat)(hl:l.length≤1000000)(hw:Wf l)(hk:2*l.length+10≤k)(h:(Qux e s l).2.2=0) :
  Good e s∧chkL l=0∧(Quu e s l).1.length=l.length∧Qbk.f k e s l=some (imgP e s 0 (Qyo (Quu e s l).1 l),0)∧AllG e s 0 (Qyo (Quu e s l).1 l)∧(l≠[]→rd (Quu e s l).1 0=0∧Qyk (Quu e s l).1 (l.length-1) 1 0):=by
 obtain⟨hg,hr,h2,h3,h4,h5⟩:=Qvb h hl;have hp:=Qyq hg l (Quu e s l).1 hl hw (Quy hr) h4 (by
  have:Que e s (l.map fsz) [] 0 (Qtm e s 0) 0=Quu e s l:=rfl;rw[this,← h2])
 refine⟨hg,Quy hr,h4,?_,hp.2.1,hp.2.2⟩;unfold Qbk.f;rw[Quz e s l k hl hw hk,Option.bind_some,if_pos h,if_pos (by omega),h3,hp.1,Option.bind_some]
theorem Qys{e s n:Int}(hG:Good e s){g:List Rec}(h:Qyj e s n g)(b:Bool):((Qyb (Qyc e s n g) b).length:Int)≤szN e:=by
 obtain⟨h0,h1,h2,h3,h4⟩:=h;have hfl:=Qxh (Qnw (Qyc e s n g)) (Qmu (Qyc e s n g).2.2);rw[Qmv]at hfl;have hmm:=Qtw ((Qyc e s n g).2.2.length:Int) (by omega) (by have:=h2.2.1;omega);unfold Qyb;rw[List.length_append]
 cases b with
 | true=>rw[if_pos rfl];omega
 | false=>rw[if_neg (by simp)];simp;omega
theorem Qyt{e s n:Int}(hG:Good e s){g:List Rec}(h:Qyj e s n g)(b:Bool):(segB e s n g b).length=(szN e).toNat:=by
 have h1:=Qys hG h b;unfold segB;rw[List.length_append,List.length_replicate];omega
theorem Qyu{e s:Int}(hG:Good e s):∀(ps:List (List Rec)) (n:Int),AllG e s n ps→(imgP e s n ps).length=ps.length*(szN e).toNat
 | [],n,_=>by simp[imgP]
 | [g],n,h=>by simp[imgP,Qyt hG h.1]
 | g :: g2 :: t,n,h=>by
  have ih:=Qyu hG (g2 :: t) (n+1) h.2;unfold imgP;rw[List.length_append,ih,Qyt hG h.1 true,List.length_cons (a:=g),Nat.add_mul,Nat.one_mul];omega
theorem Qyv(e s n:Int)(g:List Rec):(Qyc e s n g).2.1=Qlf e s n++g.flatMap Qup:=Qyh e s n g _
theorem Qyw(e s n:Int)(g:List Rec)(b:Bool):∃T,Qvw T∧segB e s n g b=Qlf e s n++(g.flatMap Qup++T):=by
 unfold segB Qyb;rw[Qyv]
 cases b with
 | true =>
  rw[if_pos rfl];generalize (szN e).toNat-(Qlf e s n++g.flatMap Qup++Qnp (Qnw (Qyc e s n g)) (Qmu (Qyc e s n g).2.2)).length=m;exact⟨Qnp (Qnw (Qyc e s n g)) (Qmu (Qyc e s n g).2.2)++List.replicate m 255,Qwb _ _ _,by simp only[List.append_assoc]⟩
 | false =>
  rw[if_neg (by simp),List.append_nil];generalize (szN e).toNat-(Qlf e s n++g.flatMap Qup).length=m;exact⟨List.replicate m 255,Qvy _,by simp only[List.append_assoc]⟩
theorem Qyx{e s n:Int}{g g':List Rec}{b b':Bool}(h:∀r∈g,okR r)(h':∀r∈g',okR r)(he:segB e s n g b=segB e s n g' b'):g=g':=by
 obtain⟨T,hT,e1⟩:=Qyw e s n g b;obtain⟨T',hT',e2⟩:=Qyw e s n g' b';rw[e1,e2]at he;exact(Qvx h h' hT hT' (List.append_cancel_left he)).1
theorem Qyy{e s:Int}(hG:Good e s):∀(ps ps':List (List Rec)) (n:Int),ps.length=ps'.length→AllG e s n ps→AllG e s n ps'→(∀g∈ps,∀r∈g,okR r)→(∀g∈ps',∀r∈g,okR r)→imgP e s n ps=imgP e s n ps'→ps=ps'
 | [],[],_,_,_,_,_,_,_=>rfl
 | [],_ :: _,_,hl,_,_,_,_,_=>by simp at hl
 | _ :: _,[],_,hl,_,_,_,_,_=>by simp at hl
 | [g],[g'],n,_,h,h',hr,hr',he=>by
  rw[Qyx (hr g (by simp)) (hr' g' (by simp)) (show segB e s n g false=segB e s n g' false from he)]
 | [_],_ :: _ :: _,_,hl,_,_,_,_,_=>by simp at hl
 | _ :: _ :: _,[_],_,hl,_,_,_,_,_=>by simp at hl
 | g :: g2 :: t,g' :: g2' :: t',n,hl,h,h',hr,hr',he=>by
  have he':segB e s n g true++imgP e s (n+1) (g2 :: t)=segB e s n g' true++imgP e s (n+1) (g2' :: t'):=he;have h1:=List.append_inj he' (by rw[Qyt hG h.1,Qyt hG h'.1]);rw[Qyx (hr g (by simp)) (hr' g' (by simp)) h1.1,Qyy hG (g2 :: t) (g2' :: t') (n+1) (by simpa using hl) h.2 h'.2 (fun x hx=>hr x (List.mem_cons_of_mem _ hx)) (fun x hx=>hr' x (List.mem_cons_of_mem _ hx)) h1.2]
theorem img_inj{e s:Int}(hG:Good e s)(ps ps':List (List Rec))(n:Int)(h:AllG e s n ps)(h':AllG e s n ps')(hr:∀g∈ps,∀r∈g,okR r)(hr':∀g∈ps',∀r∈g,okR r)(he:imgP e s n ps=imgP e s n ps'):ps=ps':=by
 have hsz:=Qtt hG.1 hG.2.1;refine Qyy hG ps ps' n ?_ h h' hr hr' he;have:=congrArg List.length he;rw[Qyu hG ps n h,Qyu hG ps' n h']at this;exact Nat.eq_of_mul_eq_mul_right (by omega) this
theorem Qyz{b:List Int}(hb:Bytes b):Bytes (Qla b):=by
 unfold Qla;refine(Qvf _ _ (Nat.le_refl _) (hb.app (Qvl 8 _))).2.1.app ?_;intro y hy
 rcases List.mem_singleton.1 hy with rfl
 omega
theorem foot_bytes(u:Int)(l:List Ent):Bytes (Qnp u l):=by
 unfold Qnp;refine Qyz (Bytes.app (Bytes.app (Bytes.app (Bytes.app ?_ (Qvl 4 _)) (Qvl 4 _)) (Qwa _ Qvz l)) (Qwa _ (fun x=>Qvl 8 x) _));intro y hy
 rcases List.mem_singleton.1 hy with rfl
 omega
theorem head_bytes{e s n:Int}(he:0≤e∧e<256)(hs:0≤s∧s<4294967296)(hn:0≤n∧n<4294967296):Bytes (Qlf e s n):=by
 unfold Qlf;refine Qyz (Bytes.app (Bytes.app ?_ (Qvq s hs.1 (by omega))) (Qvq n hn.1 (by omega)));intro y hy;simp only[List.mem_cons,List.not_mem_nil,or_false]at hy;omega
theorem frames_bytes:∀ {g:List Rec},(∀r∈g,okR r)→Bytes (g.flatMap Qup)
 | [],_=>fun y hy=>by cases hy
 | r :: g,h=>by
  rw[List.flatMap_cons];exact(Qyz (Qvu (h r (List.mem_cons_self ..)))).app (frames_bytes (fun x hx=>h x (List.mem_cons_of_mem _ hx)))
theorem rep_bytes(m:Nat):Bytes (List.replicate m 255):=fun x hx=>by have:=List.eq_of_mem_replicate hx;omega
theorem seg_bytes{e s n:Int}(hG:Good e s){g:List Rec}(h:Qyj e s n g)(hr:∀r∈g,okR r)(b:Bool):Bytes (segB e s n g b):=by
 obtain⟨g1,g2,g3,g4⟩:=hG;obtain⟨h0,h1,_⟩:=h;unfold segB Qyb;rw[Qyv];refine Bytes.app (Bytes.app ((head_bytes (by omega) (by omega) (by omega)).app (frames_bytes hr)) ?_) (rep_bytes _);split
 ·exact foot_bytes _ _
 ·intro y hy;cases hy
theorem img_bytes{e s:Int}(hG:Good e s):∀(ps:List (List Rec)) (n:Int),AllG e s n ps→(∀g∈ps,∀r∈g,okR r)→Bytes (imgP e s n ps)
 | [],n,_,_=>fun y hy=>by cases hy
 | [g],n,h,hr=>seg_bytes hG h.1 (hr g (by simp)) false
 | g :: g2 :: t,n,h,hr=>(seg_bytes hG h.1 (hr g (by simp)) true).app (img_bytes hG (g2 :: t) (n+1) h.2 (fun x hx=>hr x (List.mem_cons_of_mem _ hx)))
end Go.Proofs.YteaocbonofboeaaGreat.CodecP
end
section
namespace Go.Proofs.YteaocbonofboeaaGreat.C
open Go.RowKit Go.Proofs.YteaocbonofboeaaGreatW.PrintWords Go.Proofs.YteaocbonofboeaaGreatW.PrintLast Go.Proofs.YteaocbonofboeaaGreatW.PrintMore
theorem f_of_C{W:World}{A:Option Addr}{n:Nat}{xs:List Int}(h:Kd.C (Kd.int .u8) W A n xs):Kd.F (Kd.int .u8) W (fun _=>True) A n xs:=by
 intro W' hW;obtain⟨g,hg⟩:∃g,g=W.heap.size+(match A with|some ad=>ad.block+1|none=>0):=⟨_,rfl⟩;refine Kd.C_keep (g:=g) (0:Int) h ⟨?_,fun i hi _ _=>hW i trivial hi⟩ ?_
 ·rcases Nat.eq_zero_or_pos W.heap.size with h0|h0
  ·omega
  ·have:=Qhe (hW (W.heap.size-1) trivial (by omega)) (by omega);omega
 ·rintro ad rfl _;rw[hg];dsimp only;omega
theorem Qpb{w W:World}{tb:Nat}{x:Int}(hk:W.heap[tb]? = some (.cells #[.int .u64 x] 35 (0,0))):W.frozen? ⟨tb,0,none⟩=false∧W.cell? ⟨tb,0,none⟩=some (.int .u64 x):=⟨Qdc hk 0,(Qdb hk 0).trans rfl⟩
theorem Qpc(as_:Array Value)(W:World):(callFunc 170 as_).run Tryz.prog W=.ok (.enter 170 as_) W:=by
 simp[callFunc,Tryz.func170,Tryz.f170]
theorem IsCur.far64{W:World}{b g tb j:Nat}{bs:List Int}{i:Int}{u:Value}{cs:Array Value}(h:IsCur W b g bs i)(hr:W.heap[tb]? = some (.cells cs 35 (0,0))):IsCur (W.setCell ⟨tb,j,none⟩ u) b g bs i:=by
 obtain⟨v,h1,h2⟩:=h;exact⟨v,Qcz h1 (p:=⟨tb,j,none⟩) (Qde h1 hr (by decide)) u,h2.set hr (by decide) j u⟩
theorem Qpd(tb lo g:Nat)(bs:List Int)(x y:Int)(hb:CodecP.Bytes bs)(hl8:bs.length=8)(hlg:lo≤g)(htb:tb<lo)(hx:CodecP.leI bs=x)(w:World)(hI:IsCur w lo g bs 0)
  (hk:w.heap[tb]? = some (.cells #[.int .u64 y] 35 (0,0))) :
  Calls Tryz.prog 170 #[.pointer (some ⟨g,0,none⟩),.pointer (some ⟨tb,0,none⟩)] w fun e W'=>e=.returned (.tuple #[])∧IsCur W' lo g bs (0+8)∧Tl lo g w W'∧Below tb w W'∧W'.heap[tb]? = some (.cells #[.int .u64 x] 35 (0,0)):=by
 have HI:=QA hI;have HK:=QA hk;have hlw:lo≤w.heap.size:=Nat.le_of_lt (Nat.lt_of_le_of_lt hlg hI.lt);have HE:=QA (Qop (bs.length+1) lo g bs bs 0 x (by rw[Int.toNat_zero,List.drop_zero,← hl8,List.take_length]) (Int.le_refl _) (by omega) (by omega) hlg (by rw[CodecP.num_key bs hb (by omega),hx]) w hlw hI);clear hI hk
 go_enter Tryz.func170,Tryz.ntmps170
 go_wp2_with (go_at_call 171;refine HE.out.mono ?_;rintro ee w1 ⟨rfl,hI1,hB1⟩;have k1:=(hB1.1.block tb htb).trans HK.out;obtain⟨t0,t1⟩:=Qpb (w:=w) k1)
 go_end0
 obtain⟨h1,h2⟩:=hB1;exact⟨rfl,hI1.far64 k1,fun k cs t q1 q2 q3 q4=>Qcz (h2 _ _ _ q2 q3 q4) (p:=⟨tb,0,none⟩) (by show k≠tb;omega) _,Qir (Qis h1 (Nat.le_of_lt htb)) (Nat.le_refl _),Qcy k1 0 _⟩
theorem Qpe(A0:Option Addr)(c0:Nat)(l0:List Int)(x:Int)(tb:Nat)(w:World)(hb:CodecP.Bytes l0)(hl:l0.length=8)(hx:CodecP.leI l0=x)(hr0:Kd.C (Kd.int .u8) w A0 l0.length l0)
  (hk:w.heap[tb]? = some (.cells #[.int .u64 0] 35 (0,0))) :
  Calls Tryz.prog 169 #[.slice A0 l0.length c0,.func (.func 170) #[] #[.pointer (some ⟨tb,0,none⟩)]] w fun e w'=>∃er i,e=.returned (.tuple #[.int .i64 i,.int .i64 er])∧Below tb w w' ∧
   w'.heap[tb]? = some (.cells #[.int .u64 x] 35 (0,0)):=by
 have hlt:=Qda hk;refine Qpa 170 #[.pointer (some ⟨tb,0,none⟩)] A0 c0 l0 w hr0 (by omega) Qpc (fun er _ W'=>Below tb w W'∧W'.heap[tb]? = some (.cells #[.int .u64 x] 35 (0,0))) ?_ ?_
 ·rintro er i W W' ⟨h1,h2⟩ h3;exact⟨h1.trans (Qis h3 (Nat.le_of_lt hlt)),(h3.block tb hlt).trans h2⟩
 ·intro W g hg hB hI;refine(Qpd tb w.heap.size g l0 x 0 hb hl hg hlt hx W hI ((hB.block tb hlt).trans hk)).mono ?_;rintro e W' ⟨h1,h2,h3,h4,h5⟩;exact⟨_,h2,h3,.inl ⟨h1,(Qis hB (Nat.le_of_lt hlt)).trans h4,h5⟩⟩
theorem Qpf{P:Program}(t e:TypeId)(k:IntKind){i:TypeInfo}(ht:P.underlying t=some (.slice e))(hi:P.info? e=some i)(A:Option Addr)(n c:Nat)(j:Int)(h0:0≤j)(hm:j≤n)(hc:n≤c) :
  ∀W:World,(Instr.slice t (.slice A n c) none (some (.int k j)) (some (.int k j))).run P W=.ok (.slice A j.toNat j.toNat) W:=by
 intro W;have hel:P.elem t=e:=by simp[Program.elem,ht]
 have hu:P.underlying t=some (.slice (P.elem t)):=by rw[hel];exact ht
 have ha:(A.map fun x=>x.add 0)=A:=by cases A<;>simp[Addr.add]
 rw[run_slice_hm W t A n c hu k k j j h0 (Int.le_refl _) (by omega),hel];simp[sizeOf,typeInfo,hi,sliced,Result.andThen,ha]
def openS(t:List Int):List Int × Int:=if t.length<8 then([],2)else if CodecP.leI (t.drop (t.length-8))=Qkt 0 (t.take (t.length-8))then(t.take (t.length-8),0)else([],5)
noncomputable def Qbe.f(k:Nat)(l0:List Int):Option (List Int × Int):=(Qan.f k l0).bind fun t=>if t.2=0 then @ite _ (CodecP.Bytes t.1∧t.1.length≤35184372088824) (Classical.propDecidable _) (some (openS t.1)) none else some ([],t.2)
theorem Qbe.calls(k:Nat)(A0:Option Addr)(c0:Nat)(l0:List Int)(r1:List Int)(r2:Int)(w:World)(hr0:Kd.C (Kd.int .u8) w A0 l0.length l0)(hc0:l0.length≤c0)(h:Qbe.f k l0=some (r1,r2)) :
  Calls Tryz.prog 120 #[.slice A0 l0.length c0] w fun e w'=>∃A c,e=.returned (.tuple #[.slice A r1.length c,.int .i64 r2])∧Kd.C (Kd.int .u8) w' A r1.length r1∧r1.length≤c∧Below w.heap.size w w':=by
 unfold Qbe.f at h;obtain⟨⟨out,e0⟩,hU,h⟩:=Option.bind_eq_some_iff.mp h;dsimp only at h;have HU:=QA (Qan.calls k (fun _=>True) A0 c0 l0 out e0 w (Kd.V_mk hc0 (f_of_C hr0)) hU);clear hU hr0 hc0
 by_cases he:e0=0
 ·subst he;rw[if_pos rfl]at h
  by_cases hg:CodecP.Bytes out∧out.length≤35184372088824
  ·rw [if_pos hg]at h;have h2:=Option.some.inj h;unfold openS at h2;clear h
   by_cases h8:out.length<8
   ·rw[if_pos h8]at h2;obtain⟨rfl,rfl⟩:=Prod.mk.inj h2;have hw1:IntKind.i64.wrap ((out.length:Int)-8)=(out.length:Int)-8:=IntWalk.i64_in _ (by omega);have hb1:decide ((out.length:Int)-8<0)=true:=decide_eq_true (by omega);clear h2
    go_enter Tryz.func120,Tryz.ntmps120
    go_wp2_with (go_at_call 168;refine HU.out.mono ?_;rintro ee w1 ⟨v1,rfl,hR1,hb1⟩;obtain⟨A1,c1,rfl⟩:=Kd.R_slice hR1)
    refine bodyPost_ret (results_tmp2 rfl _ _ _) rfl ?_;exact⟨none,0,rfl,Kd.C_nil _ _,Nat.le_refl _,hb1⟩
   ·rw[if_neg h8]at h2;obtain⟨m,hm⟩:∃m,m=out.length-8:=⟨_,rfl⟩;rw[← hm]at h2;obtain⟨xs,hxs⟩:∃xs,xs=out.drop m:=⟨_,rfl⟩;rw[← hxs]at h2;have hxl:xs.length=8:=by rw[hxs,List.length_drop];omega
    obtain⟨ys,hys⟩:∃ys,ys=out.take m:=⟨_,rfl⟩;rw[← hys]at h2;have hyl:ys.length=m:=by rw[hys,List.length_take];omega
    obtain⟨j,hj⟩:∃j:Int,j=(out.length:Int)-8:=⟨_,rfl⟩;have hw1:IntKind.i64.wrap ((out.length:Int)-8)=j:=by rw[hj];exact IntWalk.i64_in _ (by omega)
    have hj0:0≤j:=by omega
    have hjm:j.toNat=m:=by omega
    have hb1:decide (j<0)=false:=decide_eq_false (by omega);have HXB:Aside0 (CodecP.Bytes xs):=⟨by rw[hxs];exact hg.1.drop _⟩;have HF:=QA (And.intro hm (And.intro hxs (And.intro hys hj)));have HG:=QA hg;obtain⟨i0,hii,_,hsz,_⟩:=info_parts Qia;have hlen64:IntKind.i64.wrap (out.length:Int)=(out.length:Int):=IntWalk.i64_in _ (by omega);obtain⟨x,hx⟩:∃x,x=CodecP.leI xs:=⟨_,rfl⟩;rw[← hx]at h2;have HX:=QA hx.symm;have HJL:Aside0 (j≤(out.length:Int)):=⟨by omega⟩;clear hx hm hxs hys hj hg;have UP:∀(P:Ending→World→Prop),(∀ee w1 A1 c1,ee=.returned (.tuple #[.slice A1 out.length c1,.int .i64 0])→R8 w1 w.heap.size (.slice A1 out.length c1) out→Below w.heap.size w w1 →
      (∀W:World,(Instr.slice 40 (.slice A1 out.length c1) none (some (.int .i64 j)) none).run Tryz.prog W=.ok (.slice A1 ys.length c1) W) →
      (∀W:World,(Instr.slice 40 (.slice A1 out.length c1) none (some (.int .i64 j)) (some (.int .i64 j))).run Tryz.prog W=.ok (.slice A1 ys.length ys.length) W) →
      (∃A2 c2,(∀W:World,(Instr.slice 40 (.slice A1 out.length c1) (some (.int .i64 j)) none none).run Tryz.prog W=.ok (.slice A2 xs.length c2) W)∧Kd.C (Kd.int .u8) w1 A2 xs.length xs)→Kd.C (Kd.int .u8) w1 A1 ys.length ys→P ee w1) →
      Calls Tryz.prog 168 #[.slice A0 l0.length c0] w P:=by
     intro P hP;refine HU.out.mono ?_;rintro ee w1 ⟨v1,rfl,hR1,hb1⟩;obtain⟨A1,c1,rfl⟩:=Kd.R_slice hR1;obtain⟨_,hlc,hC1⟩:=Kd.R_reads' hR1;have e1:=Qea (P:=Tryz.prog) 40 5 .i64 Tryz.underlying40 hii A1 out.length c1 j hj0 HJL.out hlc;have e2:=Qpf (P:=Tryz.prog) 40 5 .i64 Tryz.underlying40 hii A1 out.length c1 j hj0 HJL.out hlc;have e3:=Qeb (P:=Tryz.prog) 40 5 .i64 Tryz.underlying40 hii 1 hsz A1 out.length c1 j hj0 HJL.out;have hml:m≤out.length:=by have:=HJL.out;omega
     have hC2:=Kd.C_drop (m:=m) hC1 hml hlc;have hC3:=Kd.C_take (m:=m) hC1 hml;rw[hjm,← hyl]at e1 e2;rw[← HF.out.2.2.1]at hC3;rw[← HF.out.2.1]at hC2;rw[hjm,show out.length-m=xs.length by rw[HF.out.2.1,List.length_drop]]at e3;exact hP _ w1 A1 c1 rfl (Kd.R_mono hR1 (fun _ _=>trivial)) hb1 e1 e2 ⟨_,_,e3,hC2⟩ hC3
    have UPA:=QA UP;have hyl2:ys.length≤140737488355328:=by have:=HG.out.2;have:=HJL.out;omega
    have HL:=QA (And.intro hyl (And.intro hjm (And.intro hxl hyl2)));have H2:=QA h2;clear UP HU HG HF hlen64 hyl hjm hxl hyl2 hii hsz h2;have stp:∀(P:Ending→World→Prop),(∀w' A c,Below w.heap.size w w'→Kd.C (Kd.int .u8) w' A ys.length ys→ys.length≤c→x=Qkt 0 ys→P (.returned (.tuple #[.slice A ys.length c,.int .i64 0])) w') →
      (∀w',Below w.heap.size w w'→x≠Qkt 0 ys→P (.returned (.tuple #[.slice none 0 0,.int .i64 5])) w')→Calls Tryz.prog 120 #[.slice A0 l0.length c0] w P:=by
     intro P hP1 hP2
     by_cases hh:x=Qkt 0 ys
     ·have hne:(x != Qkt 0 ys)=false:=bne_eq_false_iff_eq.2 hh
      go_enter Tryz.func120,Tryz.ntmps120
      go_upto_region 7 with(go_at_call 168;refine UPA.out _ ?_;rintro ee w1 A1 c1 rfl hR1 hb1 e1 e2 ⟨A2,c2,e3,hC2⟩ hC3;have n:=QA hR1;have a:=QA hb1;have d:=QA hC2;have b:=QA hC3;clear hR1 hb1 hC2 hC3)
      have kt:=Qdp w1 (.cells #[.int .u64 0] 35 (0,0));have RUN:=QA (Qpe A2 c2 xs x w1.heap.size _ HXB.out HL.out.2.2.1 HX.out (Kd.C_below d.out (Qce (Below.refl _ _) _)) kt)
      go_upto_region 9 with(go_at_call 169;refine RUN.out.mono ?_;rintro ee w3 ⟨er,i,rfl,hb3,hk3⟩)
      have t3:=(Qpb (w:=w) hk3).2;have g:=(Qpb (w:=w) (show w3.drew.heap[w1.heap.size]? = some (.cells #[.int .u64 x] 35 (0,0)) from hk3)).2;have b13:Below w1.heap.size w1 w3:=(Qce (Below.refl _ _) _).trans hb3;have l:=QA (Kd.C_below b.out (b13.trans (Qis (Qcf (Below.refl _ _)) b13.size)));have B13:=QA (b13.trans (Qis (Qcf (Below.refl w3.heap.size w3)) b13.size))
      go_region_held3 (fun w'=>w'.cell? ⟨w1.heap.size,0,none⟩=some (.int .u64 x)) (first|exact g|exact t4) (first |(go_at_call 107;refine(Qkv 0 A1 c1 ys _ l.out HL.out.2.2.2).mono ?_;rintro e w4 ⟨rfl,hb4⟩;have B14:=QA (B13.out.trans (Qis hb4 B13.out.size));have t4:=(Qpb (w:=w) ((hb4.block w1.heap.size (Qda (show w3.drew.heap[w1.heap.size]? = some (.cells #[.int .u64 x] 35 (0,0)) from hk3))).trans (show w3.drew.heap[w1.heap.size]? = some (.cells #[.int .u64 x] 35 (0,0)) from hk3))).2))
      go_wp2_with fail
      have BB:=a.out.trans (Qis B14.out a.out.size);exact hP1 _ _ _ BB (Kd.C_below b.out B14.out) (Nat.le_refl _) hh
     ·have hne:(x != Qkt 0 ys)=true:=bne_iff_ne.2 hh
      go_enter Tryz.func120,Tryz.ntmps120
      go_upto_region 7 with(go_at_call 168;refine UPA.out _ ?_;rintro ee w1 A1 c1 rfl hR1 hb1 e1 e2 ⟨A2,c2,e3,hC2⟩ hC3;have n:=QA hR1;have a:=QA hb1;have d:=QA hC2;have b:=QA hC3;clear hR1 hb1 hC2 hC3)
      have kt:=Qdp w1 (.cells #[.int .u64 0] 35 (0,0));have RUN:=QA (Qpe A2 c2 xs x w1.heap.size _ HXB.out HL.out.2.2.1 HX.out (Kd.C_below d.out (Qce (Below.refl _ _) _)) kt)
      go_upto_region 9 with(go_at_call 169;refine RUN.out.mono ?_;rintro ee w3 ⟨er,i,rfl,hb3,hk3⟩)
      have t3:=(Qpb (w:=w) hk3).2;have g:=(Qpb (w:=w) (show w3.drew.heap[w1.heap.size]? = some (.cells #[.int .u64 x] 35 (0,0)) from hk3)).2;have b13:Below w1.heap.size w1 w3:=(Qce (Below.refl _ _) _).trans hb3;have l:=QA (Kd.C_below b.out (b13.trans (Qis (Qcf (Below.refl _ _)) b13.size)));have B13:=QA (b13.trans (Qis (Qcf (Below.refl w3.heap.size w3)) b13.size))
      go_region_held3 (fun w'=>w'.cell? ⟨w1.heap.size,0,none⟩=some (.int .u64 x)) (first|exact g|exact t4) (first |(go_at_call 107;refine(Qkv 0 A1 c1 ys _ l.out HL.out.2.2.2).mono ?_;rintro e w4 ⟨rfl,hb4⟩;have B14:=QA (B13.out.trans (Qis hb4 B13.out.size));have t4:=(Qpb (w:=w) ((hb4.block w1.heap.size (Qda (show w3.drew.heap[w1.heap.size]? = some (.cells #[.int .u64 x] 35 (0,0)) from hk3))).trans (show w3.drew.heap[w1.heap.size]? = some (.cells #[.int .u64 x] 35 (0,0)) from hk3))).2))
      go_wp2_with fail
      have BB:=a.out.trans (Qis B14.out a.out.size);exact hP2 _ BB hh
    refine stp _ ?_ ?_
    ·intro w' A c h1 h3 h4 h5;have h6:=H2.out;rw[if_pos h5]at h6;obtain⟨rfl,rfl⟩:=Prod.mk.inj h6;exact⟨A,c,rfl,h3,h4,h1⟩
    ·intro w' h1 h5;have h6:=H2.out;rw[if_neg h5]at h6;obtain⟨rfl,rfl⟩:=Prod.mk.inj h6;exact⟨none,0,rfl,Kd.C_nil _ _,Nat.le_refl _,h1⟩
  ·rw[if_neg hg]at h;cases h
 ·rw[if_neg he]at h;simp only[Option.some.injEq,Prod.mk.injEq]at h;obtain⟨rfl,rfl⟩:=h;have hne:(e0 != 0)=true:=bne_iff_ne.2 he
  go_enter Tryz.func120,Tryz.ntmps120
  go_wp2_with (go_at_call 168;refine HU.out.mono ?_;rintro ee w1 ⟨v1,rfl,hR1,hb1⟩;obtain⟨A1,c1,rfl⟩:=Kd.R_slice hR1)
  refine bodyPost_ret (results_tmp2 rfl _ _ _) rfl ?_;exact⟨none,0,rfl,Kd.C_nil _ _,Nat.le_refl _,hb1⟩
end Go.Proofs.YteaocbonofboeaaGreat.C
end
