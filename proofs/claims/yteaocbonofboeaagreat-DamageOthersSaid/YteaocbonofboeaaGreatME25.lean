/- Merged texts. -/
import Derived.Test.YteaocbonofboeaaGreatME24
import Derived.Test.YteaocbonofboeaaGreatME02
import Derived.WalkLawsBesides
import Derived.Recover
import Derived.Defers
import Derived.Test.YteaocbonofboeaaGreatME23
import Derived.Test.YteaocbonofboeaaGreatME16
import Derived.Test.YteaocbonofboeaaGreatME07
import Derived.Test.YteaocbonofboeaaGreatME08
import Derived.Test.YteaocbonofboeaaGreatME09
import Derived.Test.YteaocbonofboeaaGreatME10
import Derived.Test.YteaocbonofboeaaGreatME13
import Derived.Test.YteaocbonofboeaaGreatME06
set_option linter.unusedVariables false
set_option linter.unusedSimpArgs false
set_option maxHeartbeats 8000000
set_option maxRecDepth 100000
section
namespace Go.Proofs.YteaocbonofboeaaGreat.CodecP
open Go.RowKit Go.Proofs.YteaocbonofboeaaGreat.C Go.Proofs.YteaocbonofboeaaGreatW.PrintWords Go.Proofs.YteaocbonofboeaaGreatW.PrintLast Go.Proofs.YteaocbonofboeaaGreatW.PrintMore
def partB(e s n:Int)(g:List Rec):Bd:=fillB e s n (Qfq e s n) g
def segB(e s n:Int)(g:List Rec)(b:Bool):List Int:=tailB (partB e s n g) b++List.replicate ((szN e).toNat-(tailB (partB e s n g) b).length) 255
def imgP(e s:Int):Int→List (List Rec)→List Int
 | _,[]=>[]
 | n,[g]=>segB e s n g false
 | n,g :: h :: t=>segB e s n g true++imgP e s (n+1) (h :: t)
def partsS(into:List Int):Nat→List Rec→List Rec→List (List Rec)
 | _,[],cur=>[cur]
 | i,r :: rs,cur=>if rd into (i:Int)=rd into ((i:Int)-1)then partsS into (i+1) rs (cur++[r])else cur :: partsS into (i+1) rs [r]
theorem partsS_ne(into:List Int):∀(rs:List Rec) (i:Nat) (cur:List Rec),∃g t,partsS into i rs cur=g :: t
 | [],i,cur=>⟨cur,[],rfl⟩
 | r :: rs,i,cur=>by
  unfold partsS;split
  ·exact partsS_ne into rs (i+1) _
  ·exact⟨_,_,rfl⟩
theorem partsS_flat(into:List Int):∀(rs:List Rec) (i:Nat) (cur:List Rec),(partsS into i rs cur).flatten=cur++rs
 | [],i,cur=>by simp[partsS]
 | r :: rs,i,cur=>by
  unfold partsS;split
  ·rw[partsS_flat into rs];simp
  ·rw[List.flatten_cons,partsS_flat into rs];simp
theorem fillB_snoc(e s n:Int):∀(g:List Rec) (B:Bd) (r:Rec),fillB e s n B (g++[r])=putB e s n (fillB e s n B g) r
 | [],_,_=>rfl
 | x :: g,B,r=>by
  show fillB e s n (putB e s n B x) (g++[r])=_;rw[fillB_snoc e s n g];rfl
theorem fillB_frames(e s n:Int):∀(g:List Rec) (B:Bd),(fillB e s n B g).2.1=B.2.1++g.flatMap Qvs
 | [],B=>by simp[fillB]
 | x :: g,B=>by
  show(fillB e s n (putB e s n B x) g).2.1=_;rw[fillB_frames e s n g,List.flatMap_cons];simp[putB]
theorem fillB_count(e s n:Int):∀(g:List Rec) (B:Bd),(fillB e s n B g).2.2.length=B.2.2.length+g.length
 | [],B=>by simp[fillB]
 | x :: g,B=>by
  show(fillB e s n (putB e s n B x) g).2.2.length=_;rw[fillB_count e s n g];simp[putB];omega
def GoodG(e s n:Int)(g:List Rec):Prop:=0≤n∧n<s∧okB e s n 1000000 (partB e s n g)∧g≠[]∧((partB e s n g).2.1.length:Int)+Qus ((partB e s n g).2.2.length:Int)≤szN e
def AllG(e s:Int):Int→List (List Rec)→Prop
 | _,[]=>True
 | n,g :: t=>GoodG e s n g∧AllG e s (n+1) t
def StepsI(into:List Int):Nat→Nat→Int→Prop
 | 0,i,_=>i=into.length
 | d+1,i,n=>i<into.length∧((rd into (i:Int)=n∧StepsI into d (i+1) n)∨(rd into (i:Int)=n+1∧StepsI into d (i+1) (n+1)))
theorem sealB_val{B:Bd}{o:List Int}{sz:Int}(h:Qph B=some o)(hs:Qap.f B.1.1 B.1.2.1=some sz):o=tailB B true++List.replicate (sz.toNat-(tailB B true).length) 255:=by
 unfold Qph at h;rw[hs,Option.bind_some]at h;split at h
 ·cases h
  rfl
 ·cases h
theorem openB_val{B:Bd}{o:List Int}{sz:Int}(h:Qpi B=some o)(hs:Qap.f B.1.1 B.1.2.1=some sz):o=tailB B false++List.replicate (sz.toNat-(tailB B false).length) 255:=by
 unfold Qpi at h;rw[hs,Option.bind_some]at h;split at h
 ·cases h
  simp[tailB]
 ·cases h
theorem okB_more{e s n:Int}{i j:Nat}{B:Bd}(h:okB e s n i B)(hij:i≤j):okB e s n j B:=⟨h.1,by have:=h.2.1;omega,h.2.2⟩
theorem part_ne{e s n:Int}{g:List Rec}:(partB e s n g).2.2≠[]↔g≠[]:=by
 have h:=fillB_count e s n g (Qfq e s n);have h0:(Qfq e s n).2.2.length=0:=rfl;unfold partB;rw[← List.length_pos_iff,← List.length_pos_iff,h,h0];omega
theorem enc_img{e s:Int}(hG:Good e s)(l:List Rec)(into:List Int)(hl:l.length≤1000000)(hw:Wf l)(hc:chkL l=0)(hil:into.length=l.length) :
  ∀(d i:Nat) (out:List Int) (n:Int) (cur:List Rec),i+d=l.length→1≤i→okB e s n i (partB e s n cur)→cur≠[]→((partB e s n cur).2.1.length:Int)+Qus ((partB e s n cur).2.2.length:Int)≤szN e→0≤n→n<s→out.length=n.toNat*(szN e).toNat→rd into ((i:Int)-1)=n →
  Qvg e s ((l.drop i).map fsz) (into.take i) n ((partB e s n cur).2.1.length:Int) ((partB e s n cur).2.2.length:Int)=(into,0) →
  encG e s into i (l.drop i) out (some (partB e s n cur))=some (out++imgP e s n (partsS into i (l.drop i) cur))∧AllG e s n (partsS into i (l.drop i) cur)∧StepsI into d i n:=by
 have hsz:=Quv hG.1 hG.2.1;have hsize:∀ {m:Int} {i:Nat} {B:Bd},okB e s m i B→Qap.f B.1.1 B.1.2.1=some (szN e):=fun h=>by rw[h.1];exact Quw hG
 intro d
 induction d with
 | zero =>
  intro i out n cur hd hi hB hne hr h0 h1 ho hprev hp;have hi':i=into.length:=by omega
  have hmm:=Quy ((partB e s n cur).2.2.length:Int) (by omega) (by have:=hB.2.1;omega);obtain⟨o,e1,e2,t,e3⟩:=open_good hG hB (by omega);have hlim:=room_lim hG h1;have hv:=openB_val e1 (hsize hB);rw[List.drop_of_length_le (by omega)];refine⟨?_,⟨⟨h0,h1,okB_more hB (by omega),hne,hr⟩,trivial⟩,hi'⟩;unfold encG;rw[e1,Option.bind_some,if_pos (by omega),hv];rfl
 | succ d ihd =>
  intro i out n cur hd hi hB hne hr h0 h1 ho hprev hp;have hlt:i<l.length:=by omega
  have hlt2:i<into.length:=by omega
  have hcr:chkR l[i]=0:=Qvm hc _ (List.getElem_mem hlt);have hwr:=hw l[i] (List.getElem_mem hlt);have hx:=Qvv l[i] hcr;have hlen:∀q:List Int,((q++Qvs l[i]).length:Int)=(q.length:Int)+fsz l[i]:=fun q=>by rw[List.length_append];unfold fsz;omega
  have hiB:=hB.2.1;have hb5:=hB.2.2.2.2;have hne2:(partB e s n cur).2.2≠[]:=part_ne.2 hne;rw[List.drop_eq_getElem_cons hlt]at hp ⊢;rw[List.map_cons]at hp;unfold Qvg at hp
  by_cases hf:Quz e (Quo e s (s-1)) 0 (fsz l[i])=false
  ·rw[if_pos hf]at hp;cases hp
  ·rw [if_neg hf]at hp;have hft:Quz e (Quo e s (s-1)) 0 (fsz l[i])=true:=by simpa using hf
   by_cases hq:Quz e ((partB e s n cur).2.1.length:Int) ((partB e s n cur).2.2.length:Int) (fsz l[i])=true
   ·rw[if_pos hq]at hp;obtain⟨q1,q2⟩:=pre_at (by have:=planP_pre e s _ _ _ _ _ (congrArg Prod.snd hp);rw[hp]at this;exact this) hlt2;obtain⟨a1,a2,a3,a4⟩:=add_good hG hB (by omega) hcr hwr hft hq;have hpb:putB e s n (partB e s n cur) l[i]=partB e s n (cur++[l[i]]):=(fillB_snoc e s n cur _ _).symm;have hlB:((partB e s n (cur++[l[i]])).2.1.length:Int)=((partB e s n cur).2.1.length:Int)+fsz l[i]:=by rw[← hpb];exact hlen _
    have hlT:((partB e s n (cur++[l[i]])).2.2.length:Int)=((partB e s n cur).2.2.length:Int)+1:=by rw[← hpb];simp[putB]
    rw[hpb]at a1 a2 a3;rw[← q2,← hlB,← hlT]at hp;obtain⟨f1,f2,f3⟩:=ihd (i+1) out n (cur++[l[i]]) (by omega) (by omega) a2 (by simp) a3 h0 h1 ho (by rw[show((i+1:Nat):Int)-1=(i:Int)by omega];exact q1) hp;have hps:partsS into i (l[i] :: l.drop (i+1)) cur=partsS into (i+1) (l.drop (i+1)) (cur++[l[i]]):=by
     rw[partsS,if_pos (q1.trans hprev.symm)]
    rw[hps];refine⟨?_,f2,hlt2,.inl ⟨q1,f3⟩⟩;rw[encG,if_pos hlt2];rw[if_neg (by omega),if_pos (q1.trans hprev.symm),a1,Option.bind_some];exact f1
   ·rw[if_neg hq]at hp
    by_cases hs:n+1<s
    ·rw[if_pos hs]at hp;obtain⟨q1,q2⟩:=pre_at (by have:=planP_pre e s _ _ _ _ _ (congrArg Prod.snd hp);rw[hp]at this;exact this) hlt2;obtain⟨o,e1,e2,t,e3⟩:=seal_good hG hB (by omega) hne2 hr;have hv:=sealB_val e1 (hsize hB);have hhd:=Quq e s (n+1);have hfit:Quz e ((Qfq e s (n+1)).2.1.length:Int) ((Qfq e s (n+1)).2.2.length:Int) (fsz l[i])=true:=Qvh hG (by omega) (by omega) hft;obtain⟨a1,a2,a3,a4⟩:=add_good hG (Qer e s (n+1) i) (by omega) hcr hwr hft hfit;have hpb:putB e s (n+1) (Qfq e s (n+1)) l[i]=partB e s (n+1) [l[i]]:=rfl;rw[hpb]at a1 a2 a3;have hlB:((partB e s (n+1) [l[i]]).2.1.length:Int)=Quo e s (n+1)+fsz l[i]:=by rw[← hpb];exact hlen _
     have hlT:((partB e s (n+1) [l[i]]).2.2.length:Int)=1:=by rw[← hpb];simp[putB,Qfq]
     rw[← q2,← hlB,← hlT]at hp;have hlim:=room_lim hG h1;have hoo:(out++o).length=(n+1).toNat*(szN e).toNat:=by
      rw[List.length_append,ho,e2,show(n+1).toNat=n.toNat+1 by omega,Nat.add_mul,Nat.one_mul]
     obtain⟨f1,f2,f3⟩:=ihd (i+1) (out++o) (n+1) [l[i]] (by omega) (by omega) a2 (by simp) a3 (by omega) hs hoo (by rw[show((i+1:Nat):Int)-1=(i:Int)by omega];exact q1) hp;have hps:partsS into i (l[i] :: l.drop (i+1)) cur=cur :: partsS into (i+1) (l.drop (i+1)) [l[i]]:=by
      rw[partsS,if_neg (by rw[q1,hprev];omega)]
     rw[hps];refine⟨?_,⟨⟨h0,h1,okB_more hB (by omega),hne,hr⟩,f2⟩,hlt2,.inr ⟨q1,f3⟩⟩;rw[encG,if_pos hlt2];rw[if_neg (by omega),if_neg (by rw[q1,hprev];omega),e1,Option.bind_some,if_pos (by omega),q1,new_good hG (n+1) (by omega) hs,Option.bind_some,a1,Option.bind_some];rw[f1,hv];obtain⟨g2,t2,hgt⟩:=partsS_ne into (l.drop (i+1)) (i+1) [l[i]];rw[hgt];show _=some (out++(segB e s n cur true++imgP e s (n+1) (g2 :: t2)));rw[List.append_assoc];rfl
    ·rw[if_neg hs]at hp;cases hp
def partsOf(into:List Int):List Rec→List (List Rec)
 | []=>[]
 | r :: rs=>partsS into 1 rs [r]
theorem partsOf_flat(into:List Int)(l:List Rec):(partsOf into l).flatten=l:=by
 cases l with
 | nil=>rfl
 | cons r rs=>unfold partsOf;rw[partsS_flat];rfl
theorem enc_parts{e s:Int}(hG:Good e s)(l:List Rec)(into:List Int)(hl:l.length≤1000000)(hw:Wf l)(hc:chkL l=0)(hil:into.length=l.length)
  (hp:Qvg e s (l.map fsz) [] 0 (Quo e s 0) 0=(into,0)) :
  encG e s into 0 l [] none=some (imgP e s 0 (partsOf into l))∧AllG e s 0 (partsOf into l)∧(l≠[]→rd into 0=0∧StepsI into (l.length-1) 1 0):=by
 have hs0:=hG.2.2.1
 cases l with
 | nil=>exact⟨rfl,trivial,fun h=>absurd rfl h⟩
 | cons r t =>
  have hlt2:0<into.length:=by rw[hil];simp
  have hcr:chkR r=0:=Qvm hc _ (by simp);have hwr:=hw r (by simp);have hx:=Qvv r hcr;have hlen:∀q:List Int,((q++Qvs r).length:Int)=(q.length:Int)+fsz r:=fun q=>by rw[List.length_append];unfold fsz;omega
  rw[List.map_cons]at hp;unfold Qvg at hp
  by_cases hf:Quz e (Quo e s (s-1)) 0 (fsz r)=false
  ·rw[if_pos hf]at hp;cases hp
  ·rw[if_neg hf]at hp;have hft:Quz e (Quo e s (s-1)) 0 (fsz r)=true:=by simpa using hf
   have hfit0:=Qvh hG (n:=0) (by omega) (by omega) hft;rw[if_pos hfit0]at hp;obtain⟨q1,q2⟩:=pre_at (i:=0) (x:=0) (by have:=planP_pre e s _ _ _ _ _ (congrArg Prod.snd hp);rw[hp]at this;exact this) hlt2;have a:rd into 0=0:=q1;have hhd:=Quq e s 0;obtain⟨a1,a2,a3,a4⟩:=add_good hG (Qer e s 0 0) (by omega) hcr hwr hft hfit0;have hpb:putB e s 0 (Qfq e s 0) r=partB e s 0 [r]:=rfl;rw[hpb]at a1 a2 a3;have hlB:((partB e s 0 [r]).2.1.length:Int)=Quo e s 0+fsz r:=by rw[← hpb];exact hlen _
   have hlT:((partB e s 0 [r]).2.2.length:Int)=1:=by rw[← hpb];simp[putB,Qfq]
   have hp':Qvg e s (((r :: t).drop 1).map fsz) (into.take 1) 0 ((partB e s 0 [r]).2.1.length:Int) ((partB e s 0 [r]).2.2.length:Int)=(into,0):=by
    rw[hlB,hlT,q2];exact hp
   obtain⟨f1,f2,f3⟩:=enc_img hG (r :: t) into hl hw hc hil t.length 1 [] 0 [r] qq_30 (by omega) a2 (by simp) a3 (by omega) (by omega) (by simp) a hp';refine⟨?_,f2,fun _=>⟨a,by simpa using f3⟩⟩;rw[encG,if_pos hlt2];rw[if_pos rfl,q1,new_good hG 0 (by omega) (by omega),Option.bind_some,a1,Option.bind_some];exact f1
theorem encode_img(e s:Int)(l:List Rec)(k:Nat)(hl:l.length≤1000000)(hw:Wf l)(hk:2*l.length+10≤k)(h:(Qwa e s l).2.2=0) :
  Good e s∧chkL l=0∧(Qvx e s l).1.length=l.length∧Qby.f k e s l=some (imgP e s 0 (partsOf (Qvx e s l).1 l),0)∧AllG e s 0 (partsOf (Qvx e s l).1 l)∧(l≠[]→rd (Qvx e s l).1 0=0∧StepsI (Qvx e s l).1 (l.length-1) 1 0):=by
 obtain⟨hg,hr,h2,h3,h4,h5⟩:=Qwh h hl;have hp:=enc_parts hg l (Qvx e s l).1 hl hw (Qwb hr) h4 (by
  have:Qvg e s (l.map fsz) [] 0 (Quo e s 0) 0=Qvx e s l:=rfl;rw[this,← h2])
 refine⟨hg,Qwb hr,h4,?_,hp.2.1,hp.2.2⟩;unfold Qby.f;rw[Qwc e s l k hl hw hk,Option.bind_some,if_pos h,if_pos (by omega),h3,hp.1,Option.bind_some]
theorem tail_fit{e s n:Int}(hG:Good e s){g:List Rec}(h:GoodG e s n g)(b:Bool):((tailB (partB e s n g) b).length:Int)≤szN e:=by
 obtain⟨h0,h1,h2,h3,h4⟩:=h;have hfl:=foot_len (Qpg (partB e s n g)) (Qoe (partB e s n g).2.2);rw[Qof]at hfl;have hmm:=Quy ((partB e s n g).2.2.length:Int) (by omega) (by have:=h2.2.1;omega);unfold tailB;rw[List.length_append]
 cases b with
 | true=>rw[if_pos rfl];omega
 | false=>rw[if_neg (by simp)];simp;omega
theorem seg_len{e s n:Int}(hG:Good e s){g:List Rec}(h:GoodG e s n g)(b:Bool):(segB e s n g b).length=(szN e).toNat:=by
 have h1:=tail_fit hG h b;unfold segB;rw[List.length_append,List.length_replicate];omega
theorem img_len{e s:Int}(hG:Good e s):∀(ps:List (List Rec)) (n:Int),AllG e s n ps→(imgP e s n ps).length=ps.length*(szN e).toNat
 | [],n,_=>by simp[imgP]
 | [g],n,h=>by simp[imgP,seg_len hG h.1]
 | g :: g2 :: t,n,h=>by
  have ih:=img_len hG (g2 :: t) (n+1) h.2;unfold imgP;rw[List.length_append,ih,seg_len hG h.1 true,List.length_cons (a:=g),Nat.add_mul,Nat.one_mul];omega
theorem part_frames(e s n:Int)(g:List Rec):(partB e s n g).2.1=Qmq e s n++g.flatMap Qvs:=fillB_frames e s n g _
theorem seal_bytes{b:List Int}(hb:Bytes b):Bytes (Qml b):=by
 unfold Qml;refine(Qwm _ _ (Nat.le_refl _) (hb.app (Qws 8 _))).2.1.app ?_;intro y hy
 rcases List.mem_singleton.1 hy with rfl
 omega
theorem foot_bytes(u:Int)(l:List Ent):Bytes (Qoz u l):=by
 unfold Qoz;refine seal_bytes (Bytes.app (Bytes.app (Bytes.app (Bytes.app ?_ (Qws 4 _)) (Qws 4 _)) (Qxd _ Qxc l)) (Qxd _ (fun x=>Qws 8 x) _));intro y hy
 rcases List.mem_singleton.1 hy with rfl
 omega
theorem head_bytes{e s n:Int}(he:0≤e∧e<256)(hs:0≤s∧s<4294967296)(hn:0≤n∧n<4294967296):Bytes (Qmq e s n):=by
 unfold Qmq;refine seal_bytes (Bytes.app (Bytes.app ?_ (Qww s hs.1 (by omega))) (Qww n hn.1 (by omega)));intro y hy;simp only[List.mem_cons,List.not_mem_nil,or_false]at hy;omega
theorem frames_bytes:∀ {g:List Rec},(∀r∈g,okR r)→Bytes (g.flatMap Qvs)
 | [],_=>fun y hy=>by cases hy
 | r :: g,h=>by
  rw[List.flatMap_cons];exact(seal_bytes (Qxa (h r (List.mem_cons_self ..)))).app (frames_bytes (fun x hx=>h x (List.mem_cons_of_mem _ hx)))
theorem rep_bytes(m:Nat):Bytes (List.replicate m 255):=fun x hx=>by have:=List.eq_of_mem_replicate hx;omega
theorem seg_bytes{e s n:Int}(hG:Good e s){g:List Rec}(h:GoodG e s n g)(hr:∀r∈g,okR r)(b:Bool):Bytes (segB e s n g b):=by
 obtain⟨g1,g2,g3,g4⟩:=hG;obtain⟨h0,h1,_⟩:=h;unfold segB tailB;rw[part_frames];refine Bytes.app (Bytes.app ((head_bytes (by omega) (by omega) (by omega)).app (frames_bytes hr)) ?_) (rep_bytes _);split
 ·exact foot_bytes _ _
 ·intro y hy;cases hy
theorem img_bytes{e s:Int}(hG:Good e s):∀(ps:List (List Rec)) (n:Int),AllG e s n ps→(∀g∈ps,∀r∈g,okR r)→Bytes (imgP e s n ps)
 | [],n,_,_=>fun y hy=>by cases hy
 | [g],n,h,hr=>seg_bytes hG h.1 (hr g (by simp)) false
 | g :: g2 :: t,n,h,hr=>(seg_bytes hG h.1 (hr g (by simp)) true).app (img_bytes hG (g2 :: t) (n+1) h.2 (fun x hx=>hr x (List.mem_cons_of_mem _ hx)))
end Go.Proofs.YteaocbonofboeaaGreat.CodecP
end
section
namespace Go.Proofs.YteaocbonofboeaaGreat.C
open Go.RowKit Go.Proofs.YteaocbonofboeaaGreatW.PrintWords Go.Proofs.YteaocbonofboeaaGreatW.PrintLast Go.Proofs.YteaocbonofboeaaGreatW.PrintMore
theorem f_of_C{W:World}{A:Option Addr}{n:Nat}{xs:List Int}(h:Kd.C (Kd.int .u8) W A n xs):Kd.F (Kd.int .u8) W (fun _=>True) A n xs:=by
 intro W' hW;obtain⟨g,hg⟩:∃g,g=W.heap.size+(match A with|some ad=>ad.block+1|none=>0):=⟨_,rfl⟩;refine Kd.C_keep (g:=g) (0:Int) h ⟨?_,fun i hi _ _=>hW i trivial hi⟩ ?_
 ·rcases Nat.eq_zero_or_pos W.heap.size with h0|h0
  ·omega
  ·have:=Qhx (hW (W.heap.size-1) trivial (by omega)) (by omega);omega
 ·rintro ad rfl _;rw[hg];dsimp only;omega
theorem Qsf{w W:World}{tb:Nat}{x:Int}(hk:W.heap[tb]? = some (.cells #[.int .u64 x] 35 (0,0))):W.frozen? ⟨tb,0,none⟩=false∧W.cell? ⟨tb,0,none⟩=some (.int .u64 x):=⟨Qds hk 0,(Qdr hk 0).trans rfl⟩
theorem Qsg(as_:Array Value)(W:World):(callFunc 170 as_).run Tryz.prog W=.ok (.enter 170 as_) W:=by
 simp[callFunc,Tryz.func170,Tryz.f170]
theorem IsCur.far64{W:World}{b g tb j:Nat}{bs:List Int}{i:Int}{u:Value}{cs:Array Value}(h:IsCur W b g bs i)(hr:W.heap[tb]? = some (.cells cs 35 (0,0))):IsCur (W.setCell ⟨tb,j,none⟩ u) b g bs i:=by
 obtain⟨v,h1,h2⟩:=h;exact⟨v,Qdp h1 (p:=⟨tb,j,none⟩) (Qdu h1 hr (by decide)) u,h2.set hr (by decide) j u⟩
theorem Qsh(tb lo g:Nat)(bs:List Int)(x y:Int)(hb:CodecP.Bytes bs)(hl8:bs.length=8)(hlg:lo≤g)(htb:tb<lo)(hx:CodecP.leI bs=x)(w:World)(hI:IsCur w lo g bs 0)
  (hk:w.heap[tb]? = some (.cells #[.int .u64 y] 35 (0,0))) :
  Calls Tryz.prog 170 #[.pointer (some ⟨g,0,none⟩),.pointer (some ⟨tb,0,none⟩)] w fun e W'=>e=.returned (.tuple #[])∧IsCur W' lo g bs (0+8)∧Tl lo g w W'∧Below tb w W'∧W'.heap[tb]? = some (.cells #[.int .u64 x] 35 (0,0)):=by
 have HI:=QA hI;have HK:=QA hk;have hlw:lo≤w.heap.size:=Nat.le_of_lt (Nat.lt_of_le_of_lt hlg hI.lt);have HE:=QA (Qrt (bs.length+1) lo g bs bs 0 x (by rw[Int.toNat_zero,List.drop_zero,← hl8,List.take_length]) (Int.le_refl _) (by omega) (by omega) hlg (by rw[CodecP.num_key bs hb (by omega),hx]) w hlw hI);clear hI hk
 go_enter Tryz.func170,Tryz.ntmps170
 go_wp2_with (go_at_call 171;refine HE.out.mono ?_;rintro ee w1 ⟨rfl,hI1,hB1⟩;have k1:=(hB1.1.block tb htb).trans HK.out;obtain⟨t0,t1⟩:=Qsf (w:=w) k1)
 go_end0
 obtain⟨h1,h2⟩:=hB1;exact⟨rfl,hI1.far64 k1,fun k cs t q1 q2 q3 q4=>Qdp (h2 _ _ _ q2 q3 q4) (p:=⟨tb,0,none⟩) (by show k≠tb;omega) _,Qjt (Qju h1 (Nat.le_of_lt htb)) (Nat.le_refl _),Qdo k1 0 _⟩
theorem Qsi(A0:Option Addr)(c0:Nat)(l0:List Int)(x:Int)(tb:Nat)(w:World)(hb:CodecP.Bytes l0)(hl:l0.length=8)(hx:CodecP.leI l0=x)(hr0:Kd.C (Kd.int .u8) w A0 l0.length l0)
  (hk:w.heap[tb]? = some (.cells #[.int .u64 0] 35 (0,0))) :
  Calls Tryz.prog 169 #[.slice A0 l0.length c0,.func (.func 170) #[] #[.pointer (some ⟨tb,0,none⟩)]] w fun e w'=>∃er i,e=.returned (.tuple #[.int .i64 i,.int .i64 er])∧Below tb w w' ∧
   w'.heap[tb]? = some (.cells #[.int .u64 x] 35 (0,0)):=by
 have hlt:=Qdq hk;refine Qse 170 #[.pointer (some ⟨tb,0,none⟩)] A0 c0 l0 w hr0 (by omega) Qsg (fun er _ W'=>Below tb w W'∧W'.heap[tb]? = some (.cells #[.int .u64 x] 35 (0,0))) ?_ ?_
 ·rintro er i W W' ⟨h1,h2⟩ h3;exact⟨h1.trans (Qju h3 (Nat.le_of_lt hlt)),(h3.block tb hlt).trans h2⟩
 ·intro W g hg hB hI;refine(Qsh tb w.heap.size g l0 x 0 hb hl hg hlt hx W hI ((hB.block tb hlt).trans hk)).mono ?_;rintro e W' ⟨h1,h2,h3,h4,h5⟩;exact⟨_,h2,h3,.inl ⟨h1,(Qju hB (Nat.le_of_lt hlt)).trans h4,h5⟩⟩
theorem Qsj{P:Program}(t e:TypeId)(k:IntKind){i:TypeInfo}(ht:P.underlying t=some (.slice e))(hi:P.info? e=some i)(A:Option Addr)(n c:Nat)(j:Int)(h0:0≤j)(hm:j≤n)(hc:n≤c) :
  ∀W:World,(Instr.slice t (.slice A n c) none (some (.int k j)) (some (.int k j))).run P W=.ok (.slice A j.toNat j.toNat) W:=by
 intro W;have hel:P.elem t=e:=by simp[Program.elem,ht]
 have hu:P.underlying t=some (.slice (P.elem t)):=by rw[hel];exact ht
 have ha:(A.map fun x=>x.add 0)=A:=by cases A<;>simp[Addr.add]
 rw[run_slice_hm W t A n c hu k k j j h0 (Int.le_refl _) (by omega),hel];simp[sizeOf,typeInfo,hi,sliced,Result.andThen,ha]
def openS(t:List Int):List Int × Int:=if t.length<8 then([],2)else if CodecP.leI (t.drop (t.length-8))=Qmf 0 (t.take (t.length-8))then(t.take (t.length-8),0)else([],5)
noncomputable def Qbs.f(k:Nat)(l0:List Int):Option (List Int × Int):=(Qan.f k l0).bind fun t=>if t.2=0 then @ite _ (CodecP.Bytes t.1∧t.1.length≤35184372088824) (Classical.propDecidable _) (some (openS t.1)) none else some ([],t.2)
theorem Qbs.calls(k:Nat)(A0:Option Addr)(c0:Nat)(l0:List Int)(r1:List Int)(r2:Int)(w:World)(hr0:Kd.C (Kd.int .u8) w A0 l0.length l0)(hc0:l0.length≤c0)(h:Qbs.f k l0=some (r1,r2)) :
  Calls Tryz.prog 120 #[.slice A0 l0.length c0] w fun e w'=>∃A c,e=.returned (.tuple #[.slice A r1.length c,.int .i64 r2])∧Kd.C (Kd.int .u8) w' A r1.length r1∧r1.length≤c∧Below w.heap.size w w':=by
 unfold Qbs.f at h;obtain⟨⟨out,e0⟩,hU,h⟩:=Option.bind_eq_some_iff.mp h;dsimp only at h;have HU:=QA (Qan.calls k (fun _=>True) A0 c0 l0 out e0 w (Kd.V_mk hc0 (f_of_C hr0)) hU);clear hU hr0 hc0
 by_cases he:e0=0
 ·subst he;rw[if_pos rfl]at h
  by_cases hg:CodecP.Bytes out∧out.length≤35184372088824
  ·rw [if_pos hg]at h;have h2:=Option.some.inj h;unfold openS at h2;clear h
   by_cases h8:out.length<8
   ·rw[if_pos h8]at h2;obtain⟨rfl,rfl⟩:=Prod.mk.inj h2;have hw1:IntKind.i64.wrap ((out.length:Int)-8)=(out.length:Int)-8:=IntWalk.i64_in _ (by omega);have hb1:decide ((out.length:Int)-8<0)=true:=decide_eq_true (by omega);clear h2
    go_enter Tryz.func120,Tryz.ntmps120
    go_wp2_with (go_at_call 168;refine HU.out.mono ?_;rintro ee w1 ⟨v1,rfl,hR1,hb1⟩;obtain⟨A1,c1,rfl⟩:=Kd.R_slice hR1)
    refine bodyPost_ret (results_tmp2 rfl _ _ _) rfl ?_;exact⟨none,0,rfl,Kd.C_nil _ _,Nat.le_refl _,hb1⟩
   ·rw[if_neg h8]at h2;obtain⟨m,hm⟩:∃m,m=out.length-8:=⟨_,rfl⟩;rw[← hm]at h2;obtain⟨xs,hxs⟩:∃xs,xs=out.drop m:=⟨_,rfl⟩;rw[← hxs]at h2;have hxl:xs.length=8:=by rw[hxs,List.length_drop];omega
    obtain⟨ys,hys⟩:∃ys,ys=out.take m:=⟨_,rfl⟩;rw[← hys]at h2;have hyl:ys.length=m:=by rw[hys,List.length_take];omega
    obtain⟨j,hj⟩:∃j:Int,j=(out.length:Int)-8:=⟨_,rfl⟩;have hw1:IntKind.i64.wrap ((out.length:Int)-8)=j:=by rw[hj];exact IntWalk.i64_in _ (by omega)
    have hj0:0≤j:=by omega
    have hjm:j.toNat=m:=by omega
    have hb1:decide (j<0)=false:=decide_eq_false (by omega);have HXB:Aside0 (CodecP.Bytes xs):=⟨by rw[hxs];exact hg.1.drop _⟩;have HF:=QA (And.intro hm (And.intro hxs (And.intro hys hj)));have HG:=QA hg;obtain⟨i0,hii,_,hsz,_⟩:=info_parts Qit;have hlen64:IntKind.i64.wrap (out.length:Int)=(out.length:Int):=IntWalk.i64_in _ (by omega);obtain⟨x,hx⟩:∃x,x=CodecP.leI xs:=⟨_,rfl⟩;rw[← hx]at h2;have HX:=QA hx.symm;have HJL:Aside0 (j≤(out.length:Int)):=⟨by omega⟩;clear hx hm hxs hys hj hg;have UP:∀(P:Ending→World→Prop),(∀ee w1 A1 c1,ee=.returned (.tuple #[.slice A1 out.length c1,.int .i64 0])→R8 w1 w.heap.size (.slice A1 out.length c1) out→Below w.heap.size w w1 →
      (∀W:World,(Instr.slice 40 (.slice A1 out.length c1) none (some (.int .i64 j)) none).run Tryz.prog W=.ok (.slice A1 ys.length c1) W) →
      (∀W:World,(Instr.slice 40 (.slice A1 out.length c1) none (some (.int .i64 j)) (some (.int .i64 j))).run Tryz.prog W=.ok (.slice A1 ys.length ys.length) W) →
      (∃A2 c2,(∀W:World,(Instr.slice 40 (.slice A1 out.length c1) (some (.int .i64 j)) none none).run Tryz.prog W=.ok (.slice A2 xs.length c2) W)∧Kd.C (Kd.int .u8) w1 A2 xs.length xs)→Kd.C (Kd.int .u8) w1 A1 ys.length ys→P ee w1) →
      Calls Tryz.prog 168 #[.slice A0 l0.length c0] w P:=by
     intro P hP;refine HU.out.mono ?_;rintro ee w1 ⟨v1,rfl,hR1,hb1⟩;obtain⟨A1,c1,rfl⟩:=Kd.R_slice hR1;obtain⟨_,hlc,hC1⟩:=Kd.R_reads' hR1;have e1:=Qet (P:=Tryz.prog) 40 5 .i64 Tryz.underlying40 hii A1 out.length c1 j hj0 HJL.out hlc;have e2:=Qsj (P:=Tryz.prog) 40 5 .i64 Tryz.underlying40 hii A1 out.length c1 j hj0 HJL.out hlc;have e3:=Qeu (P:=Tryz.prog) 40 5 .i64 Tryz.underlying40 hii 1 hsz A1 out.length c1 j hj0 HJL.out;have hml:m≤out.length:=by have:=HJL.out;omega
     have hC2:=Kd.C_drop (m:=m) hC1 hml hlc;have hC3:=Kd.C_take (m:=m) hC1 hml;rw[hjm,← hyl]at e1 e2;rw[← HF.out.2.2.1]at hC3;rw[← HF.out.2.1]at hC2;rw[hjm,show out.length-m=xs.length by rw[HF.out.2.1,List.length_drop]]at e3;exact hP _ w1 A1 c1 rfl (Kd.R_mono hR1 (fun _ _=>trivial)) hb1 e1 e2 ⟨_,_,e3,hC2⟩ hC3
    have UPA:=QA UP;have hyl2:ys.length≤140737488355328:=by have:=HG.out.2;have:=HJL.out;omega
    have HL:=QA (And.intro hyl (And.intro hjm (And.intro hxl hyl2)));have H2:=QA h2;clear UP HU HG HF hlen64 hyl hjm hxl hyl2 hii hsz h2;have stp:∀(P:Ending→World→Prop),(∀w' A c,Below w.heap.size w w'→Kd.C (Kd.int .u8) w' A ys.length ys→ys.length≤c→x=Qmf 0 ys→P (.returned (.tuple #[.slice A ys.length c,.int .i64 0])) w') →
      (∀w',Below w.heap.size w w'→x≠Qmf 0 ys→P (.returned (.tuple #[.slice none 0 0,.int .i64 5])) w')→Calls Tryz.prog 120 #[.slice A0 l0.length c0] w P:=by
     intro P hP1 hP2
     by_cases hh:x=Qmf 0 ys
     ·have hne:(x != Qmf 0 ys)=false:=bne_eq_false_iff_eq.2 hh
      go_enter Tryz.func120,Tryz.ntmps120
      go_upto_region 7 with(go_at_call 168;refine UPA.out _ ?_;rintro ee w1 A1 c1 rfl hR1 hb1 e1 e2 ⟨A2,c2,e3,hC2⟩ hC3;have n:=QA hR1;have a:=QA hb1;have d:=QA hC2;have b:=QA hC3;clear hR1 hb1 hC2 hC3)
      have kt:=Qeh w1 (.cells #[.int .u64 0] 35 (0,0));have RUN:=QA (Qsi A2 c2 xs x w1.heap.size _ HXB.out HL.out.2.2.1 HX.out (Kd.C_below d.out (Qcs (Below.refl _ _) _)) kt)
      go_upto_region 9 with(go_at_call 169;refine RUN.out.mono ?_;rintro ee w3 ⟨er,i,rfl,hb3,hk3⟩)
      have t3:=(Qsf (w:=w) hk3).2;have g:=(Qsf (w:=w) (show w3.drew.heap[w1.heap.size]? = some (.cells #[.int .u64 x] 35 (0,0)) from hk3)).2;have b13:Below w1.heap.size w1 w3:=(Qcs (Below.refl _ _) _).trans hb3;have l:=QA (Kd.C_below b.out (b13.trans (Qju (Qct (Below.refl _ _)) b13.size)));have B13:=QA (b13.trans (Qju (Qct (Below.refl w3.heap.size w3)) b13.size))
      go_region_held3 (fun w'=>w'.cell? ⟨w1.heap.size,0,none⟩=some (.int .u64 x)) (first|exact g|exact t4) (first |(go_at_call 107;refine(Qmh 0 A1 c1 ys _ l.out HL.out.2.2.2).mono ?_;rintro e w4 ⟨rfl,hb4⟩;have B14:=QA (B13.out.trans (Qju hb4 B13.out.size));have t4:=(Qsf (w:=w) ((hb4.block w1.heap.size (Qdq (show w3.drew.heap[w1.heap.size]? = some (.cells #[.int .u64 x] 35 (0,0)) from hk3))).trans (show w3.drew.heap[w1.heap.size]? = some (.cells #[.int .u64 x] 35 (0,0)) from hk3))).2))
      go_wp2_with fail
      have BB:=a.out.trans (Qju B14.out a.out.size);exact hP1 _ _ _ BB (Kd.C_below b.out B14.out) (Nat.le_refl _) hh
     ·have hne:(x != Qmf 0 ys)=true:=bne_iff_ne.2 hh
      go_enter Tryz.func120,Tryz.ntmps120
      go_upto_region 7 with(go_at_call 168;refine UPA.out _ ?_;rintro ee w1 A1 c1 rfl hR1 hb1 e1 e2 ⟨A2,c2,e3,hC2⟩ hC3;have n:=QA hR1;have a:=QA hb1;have d:=QA hC2;have b:=QA hC3;clear hR1 hb1 hC2 hC3)
      have kt:=Qeh w1 (.cells #[.int .u64 0] 35 (0,0));have RUN:=QA (Qsi A2 c2 xs x w1.heap.size _ HXB.out HL.out.2.2.1 HX.out (Kd.C_below d.out (Qcs (Below.refl _ _) _)) kt)
      go_upto_region 9 with(go_at_call 169;refine RUN.out.mono ?_;rintro ee w3 ⟨er,i,rfl,hb3,hk3⟩)
      have t3:=(Qsf (w:=w) hk3).2;have g:=(Qsf (w:=w) (show w3.drew.heap[w1.heap.size]? = some (.cells #[.int .u64 x] 35 (0,0)) from hk3)).2;have b13:Below w1.heap.size w1 w3:=(Qcs (Below.refl _ _) _).trans hb3;have l:=QA (Kd.C_below b.out (b13.trans (Qju (Qct (Below.refl _ _)) b13.size)));have B13:=QA (b13.trans (Qju (Qct (Below.refl w3.heap.size w3)) b13.size))
      go_region_held3 (fun w'=>w'.cell? ⟨w1.heap.size,0,none⟩=some (.int .u64 x)) (first|exact g|exact t4) (first |(go_at_call 107;refine(Qmh 0 A1 c1 ys _ l.out HL.out.2.2.2).mono ?_;rintro e w4 ⟨rfl,hb4⟩;have B14:=QA (B13.out.trans (Qju hb4 B13.out.size));have t4:=(Qsf (w:=w) ((hb4.block w1.heap.size (Qdq (show w3.drew.heap[w1.heap.size]? = some (.cells #[.int .u64 x] 35 (0,0)) from hk3))).trans (show w3.drew.heap[w1.heap.size]? = some (.cells #[.int .u64 x] 35 (0,0)) from hk3))).2))
      go_wp2_with fail
      have BB:=a.out.trans (Qju B14.out a.out.size);exact hP2 _ BB hh
    refine stp _ ?_ ?_
    ·intro w' A c h1 h3 h4 h5;have h6:=H2.out;rw[if_pos h5]at h6;obtain⟨rfl,rfl⟩:=Prod.mk.inj h6;exact⟨A,c,rfl,h3,h4,h1⟩
    ·intro w' h1 h5;have h6:=H2.out;rw[if_neg h5]at h6;obtain⟨rfl,rfl⟩:=Prod.mk.inj h6;exact⟨none,0,rfl,Kd.C_nil _ _,Nat.le_refl _,h1⟩
  ·rw[if_neg hg]at h;cases h
 ·rw[if_neg he]at h;simp only[Option.some.injEq,Prod.mk.injEq]at h;obtain⟨rfl,rfl⟩:=h;have hne:(e0 != 0)=true:=bne_iff_ne.2 he
  go_enter Tryz.func120,Tryz.ntmps120
  go_wp2_with (go_at_call 168;refine HU.out.mono ?_;rintro ee w1 ⟨v1,rfl,hR1,hb1⟩;obtain⟨A1,c1,rfl⟩:=Kd.R_slice hR1)
  refine bodyPost_ret (results_tmp2 rfl _ _ _) rfl ?_;exact⟨none,0,rfl,Kd.C_nil _ _,Nat.le_refl _,hb1⟩
theorem Qsk(b g:Nat)(bs:List Int)(i x:Int)(hx:x=YteaocbonofboeaaGreatW.PrintWords.rd bs i)(hb:CodecP.Bytes bs)(hi:0≤i)(hl:bs.length≤140737488355328)(hs:i<(bs.length:Int))(hbg:b≤g)(w:World)(hbw:b≤w.heap.size)(hI:IsCur w b g bs i) :
  Calls Tryz.prog 173 #[.pointer (some ⟨g,0,none⟩)] w fun e w'=>e=.returned (.int .u8 x)∧IsCur w' b g bs (i+1)∧Bw b g w w':=by
 obtain⟨j,rfl⟩:=Int.eq_ofNat_of_zero_le hi;have hj:j<bs.length:=by omega
 have hr:=CodecP.rd_range hb hj;obtain⟨k,y,h1,h2⟩:=CodecP.byte_key (YteaocbonofboeaaGreatW.PrintWords.rd bs (j:Int)) hr;have h:=Qrr k b g bs [YteaocbonofboeaaGreatW.PrintWords.rd bs (j:Int)] j y (by
  rw[CodecP.rd_get hj,show(j:Int).toNat=j from rfl,List.drop_eq_getElem_cons hj];rfl) hi hl (by omega) hbg h1 w hbw hI
 rw[h2,← hx]at h;exact h
def Qsl(bs:List Int):Nat→Int→Int→Int→Except (Int × Int) (Int × Int)
 | 0,_,i,x=>.ok (x,i)
 | f+1,j,i,x =>
  if i<(bs.length:Int)then
   if j=9∧1<YteaocbonofboeaaGreatW.PrintWords.rd bs i then .error (3,i+1)
   else if 128≤YteaocbonofboeaaGreatW.PrintWords.rd bs i then Qsl bs f (j+1) (i+1) (Go.bits .or .u64 x (shl .u64 (IntKind.u64.wrap (Go.bits .andNot .u8 (YteaocbonofboeaaGreatW.PrintWords.rd bs i) 128)) (7*j)))
   else if YteaocbonofboeaaGreatW.PrintWords.rd bs i=0∧0<j then .error (4,i+1)
   else .ok (Go.bits .or .u64 x (shl .u64 (IntKind.u64.wrap (Go.bits .andNot .u8 (YteaocbonofboeaaGreatW.PrintWords.rd bs i) 128)) (7*j)),i+1)
  else .error (2,i)
def Ends(b g:Nat)(bs:List Int)(w:World)(r:Except (Int × Int) (Value × Int))(e:Ending)(w':World):Prop :=
 match r with
 | .ok (v,i)=>e=.returned v∧IsCur w' b g bs i∧Bw b g w w'
 | .error (er,i)=>Qrp b g bs i er w e w'
theorem Qsm (b g:Nat) (bs:List Int) (i:Int) (hb:CodecP.Bytes bs) (hi:0≤i∧i≤(bs.length:Int)) (hl:bs.length≤140737488355328) (hbg:b≤g) (w:World) (hbw:b≤w.heap.size) (hI:IsCur w b g bs i) (R:Except (Int × Int) (Value × Int)) (hR:(Qsl bs 10 0 i 0).map (fun p=>(Value.int .u64 p.1,p.2))=R) :
  Calls Tryz.prog 175 #[.pointer (some ⟨g,0,none⟩)] w (Ends b g bs w R):=by
 have HI:=QA hI;have HR:=QA hR;have HBY:=QA hb;have HW:=QA hbw;clear hI hR hb hbw
 go_enter Tryz.func175,Tryz.ntmps175
 go_wp2
 go_loopw [3,6] (fun v3 v6 wr=>∃(x j i2:Int) (f:Nat),v3=.int .u64 x∧v6=.int .i64 j∧Aside0 (0≤j∧j+(f:Int)=10)∧Aside0 (0≤i2∧i2≤(bs.length:Int))∧Aside0 ((Qsl bs f j i2 x).map (fun p=>(Value.int .u64 p.1,p.2))=R)∧Aside0 (IsCur wr b g bs i2)∧Aside0 (Bw b g w wr))
  (fun _ v6 _=>10-(intOf v6).toNat)
 case atStart=>exact⟨0,0,i,10,rfl,rfl,⟨by omega⟩,⟨hi⟩,HR,HI,⟨Bw.refl _ _ _⟩⟩
 case round =>
  obtain⟨x,j,i2,f,rfl,rfl,HJ,HI2,HV,HIr,HBr⟩:=hrel;have hbr:b≤wr.heap.size:=Nat.le_trans HW.out HBr.out.size
  cases f with
  | zero =>
   have hj:j=10:=by have:=HJ.out;omega
   subst hj;have hv:=HV.out;simp only[Qsl,Except.map]at hv;subst hv;go_wp2;go_ret
   exact⟨rfl,HIr.out,HBr.out⟩
  | succ f =>
   have hv:=HV.out;clear HV;have hj1:decide (j<10)=true:=decide_eq_true (by have:=HJ.out;omega);simp only[Qsl]at hv
   by_cases hlt:i2<(bs.length:Int)
   ·rw [if_pos hlt]at hv;obtain⟨y,hy⟩:∃y,y=YteaocbonofboeaaGreatW.PrintWords.rd bs i2:=⟨_,rfl⟩;rw[← hy]at hv;have HY:=QA hy;have HLT:=QA hlt;have hw7:IntKind.i64.wrap (7*j)=7*j:=IntWalk.i64_in _ (by have:=HJ.out;omega);have hwj:IntKind.i64.wrap (j+1)=j+1:=IntWalk.i64_in _ (by have:=HJ.out;omega);obtain⟨s7,hs7⟩:∃s7:Int,7*j=s7:=⟨_,rfl⟩;have hw7':IntKind.i64.wrap (7*j)=s7:=hw7.trans hs7;have hs70:0≤s7:=by have:=HJ.out;omega
    rw[hs7]at hv;obtain⟨z,hz⟩:∃z:Int,Go.bits .andNot .u8 y 128=z:=⟨_,rfl⟩;rw[hz]at hv;obtain⟨j8,hj8⟩:∃j8:Int,(shl .u64 (IntKind.u64.wrap z) s7)=j8:=⟨_,rfl⟩;rw[hj8]at hv;have hj8_:(IntKind.u64.wrap ((IntKind.u64.wrap z)*2^min s7.toNat 64))=j8:=hj8;have hj8z:s7≤64→(IntKind.u64.wrap ((IntKind.u64.wrap z)*2^s7.toNat))=j8:=Qio hj8;have HS7:=QA hs7;clear hy hlt hw7 hs7 hj8;have hi20:=HI2.out.1
    by_cases h9:j=9∧1<y
    ·rw[if_pos h9]at hv;simp only[Except.map]at hv;subst hv;have m:(j == 9)=true:=by rw[h9.1];rfl
     have n:decide (1<y)=true:=decide_eq_true h9.2;clear h9
     go_wp2_with (first
      |(go_at_call 173;refine(Qsk b g bs i2 y HY.out HBY.out HI2.out.1 hl HLT.out hbg _ hbr HIr.out).mono ?_;rintro ee w1 ⟨rfl,hI1,hB1⟩)
      |(go_at_call 174;refine(Qnd b g bs (i2+1) 3 (by decide) _ hI1).mono ?_;rintro ee w2 ⟨rfl,rfl⟩))
     exact⟨rfl,rfl,hI1,HBr.out.trans hB1⟩
    ·rw [if_neg h9]at hv
     by_cases e9:j=9
     ·have m:(j == 9)=true:=by rw[e9];rfl
      have n:decide (1<y)=false:=decide_eq_false (fun h=>h9 ⟨e9,h⟩);clear h9 e9
      by_cases a:128≤y
      ·rw[if_pos a]at hv;have k:decide (128≤y)=true:=decide_eq_true a;have HV:=QA hv;clear hv a
       go_wp2_with (go_at_call 173;refine(Qsk b g bs i2 y HY.out HBY.out HI2.out.1 hl HLT.out hbg _ hbr HIr.out).mono ?_;rintro ee w1 ⟨rfl,hI1,hB1⟩)
       go_roundw
       case rel=>exact⟨_,j+1,i2+1,f,rfl,rfl,⟨by have:=HJ.out;omega⟩,⟨by have:=HI2.out;have:=HLT.out;omega⟩,HV,⟨hI1⟩,⟨HBr.out.trans hB1⟩⟩
       case measure=>have:=HJ.out;simp[intOf];omega
      ·rw[if_neg a]at hv;have k:decide (128≤y)=false:=decide_eq_false a;clear a
       by_cases c:y=0∧0<j
       ·rw[if_pos c]at hv;simp only[Except.map]at hv;subst hv;have d:(y == 0)=true:=by rw[c.1];rfl
        have l:decide (0<j)=true:=decide_eq_true c.2;clear c
        go_wp2_with (first
         |(go_at_call 173;refine(Qsk b g bs i2 y HY.out HBY.out HI2.out.1 hl HLT.out hbg _ hbr HIr.out).mono ?_;rintro ee w1 ⟨rfl,hI1,hB1⟩)
         |(go_at_call 174;refine(Qnd b g bs (i2+1) 4 (by decide) _ hI1).mono ?_;rintro ee w2 ⟨rfl,rfl⟩))
        exact⟨rfl,rfl,hI1,HBr.out.trans hB1⟩
       ·rw[if_neg c]at hv;simp only[Except.map]at hv;subst hv
        by_cases hyz:y=0
        ·have d:(y == 0)=true:=by rw[hyz];rfl
         have l:decide (0<j)=false:=decide_eq_false (fun h=>c ⟨hyz,h⟩);clear c hyz
         go_wp2_with (go_at_call 173;refine(Qsk b g bs i2 y HY.out HBY.out HI2.out.1 hl HLT.out hbg _ hbr HIr.out).mono ?_;rintro ee w1 ⟨rfl,hI1,hB1⟩)
         go_ret
         exact⟨rfl,hI1,HBr.out.trans hB1⟩
        ·have d:(y == 0)=false:=beq_eq_false_iff_ne.2 hyz;clear c hyz
         go_wp2_with (go_at_call 173;refine(Qsk b g bs i2 y HY.out HBY.out HI2.out.1 hl HLT.out hbg _ hbr HIr.out).mono ?_;rintro ee w1 ⟨rfl,hI1,hB1⟩)
         go_ret
         exact⟨rfl,hI1,HBr.out.trans hB1⟩
     ·have m:(j == 9)=false:=beq_eq_false_iff_ne.2 e9;clear h9 e9
      by_cases a:128≤y
      ·rw[if_pos a]at hv;have k:decide (128≤y)=true:=decide_eq_true a;have HV:=QA hv;clear hv a
       go_wp2_with (go_at_call 173;refine(Qsk b g bs i2 y HY.out HBY.out HI2.out.1 hl HLT.out hbg _ hbr HIr.out).mono ?_;rintro ee w1 ⟨rfl,hI1,hB1⟩)
       go_roundw
       case rel=>exact⟨_,j+1,i2+1,f,rfl,rfl,⟨by have:=HJ.out;omega⟩,⟨by have:=HI2.out;have:=HLT.out;omega⟩,HV,⟨hI1⟩,⟨HBr.out.trans hB1⟩⟩
       case measure=>have:=HJ.out;simp[intOf];omega
      ·rw[if_neg a]at hv;have k:decide (128≤y)=false:=decide_eq_false a;clear a
       by_cases c:y=0∧0<j
       ·rw[if_pos c]at hv;simp only[Except.map]at hv;subst hv;have d:(y == 0)=true:=by rw[c.1];rfl
        have l:decide (0<j)=true:=decide_eq_true c.2;clear c
        go_wp2_with (first
         |(go_at_call 173;refine(Qsk b g bs i2 y HY.out HBY.out HI2.out.1 hl HLT.out hbg _ hbr HIr.out).mono ?_;rintro ee w1 ⟨rfl,hI1,hB1⟩)
         |(go_at_call 174;refine(Qnd b g bs (i2+1) 4 (by decide) _ hI1).mono ?_;rintro ee w2 ⟨rfl,rfl⟩))
        exact⟨rfl,rfl,hI1,HBr.out.trans hB1⟩
       ·rw[if_neg c]at hv;simp only[Except.map]at hv;subst hv
        by_cases hyz:y=0
        ·have d:(y == 0)=true:=by rw[hyz];rfl
         have l:decide (0<j)=false:=decide_eq_false (fun h=>c ⟨hyz,h⟩);clear c hyz
         go_wp2_with (go_at_call 173;refine(Qsk b g bs i2 y HY.out HBY.out HI2.out.1 hl HLT.out hbg _ hbr HIr.out).mono ?_;rintro ee w1 ⟨rfl,hI1,hB1⟩)
         go_ret
         exact⟨rfl,hI1,HBr.out.trans hB1⟩
        ·have d:(y == 0)=false:=beq_eq_false_iff_ne.2 hyz;clear c hyz
         go_wp2_with (go_at_call 173;refine(Qsk b g bs i2 y HY.out HBY.out HI2.out.1 hl HLT.out hbg _ hbr HIr.out).mono ?_;rintro ee w1 ⟨rfl,hI1,hB1⟩)
         go_ret
         exact⟨rfl,hI1,HBr.out.trans hB1⟩
   ·rw[if_neg hlt]at hv;simp only[Except.map]at hv;subst hv
    go_wp2_with (go_at_call 173;refine(Qrs b g bs i2 HI2.out hl (by omega) _ hbr HIr.out).mono ?_;rintro ee w1 ⟨rfl,hI1,hB1⟩)
    exact⟨rfl,rfl,hI1,HBr.out.trans hB1⟩
theorem Qxs{a b:List Int}(ha:CodecP.Bytes a)(hb:CodecP.Bytes b):(strOfNums a).toList=(strOfNums b).toList↔a=b:=by
 constructor
 ·intro h;have h2:strOfNums a=strOfNums b:=by
   rw[Lib.toList_data,Lib.toList_data]at h;have h3:=Array.toList_inj.1 h;generalize strOfNums a=x at h3 ⊢;generalize strOfNums b=y at h3 ⊢
   cases x
   cases y
   congr
  have:=congrArg bytesOf h2
  rwa [CodecP.bytesOf_nums ha,CodecP.bytesOf_nums hb]at this
 ·intro h;rw[h]
section
variable {w W W':World} {xb gb:Nat} {d:Bool} {g1:ByteArray} {g2 g3:Int}
end
end Go.Proofs.YteaocbonofboeaaGreat.C
end
