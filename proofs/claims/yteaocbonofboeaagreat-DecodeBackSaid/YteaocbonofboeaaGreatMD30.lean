/- Merged texts. -/
import Derived.Test.YteaocbonofboeaaGreatMD29
import Derived.Test.YteaocbonofboeaaGreatMD25
import Derived.Test.YteaocbonofboeaaGreatMD27
import Derived.Test.YteaocbonofboeaaGreatMD09
set_option linter.unusedVariables false
set_option linter.unusedSimpArgs false
set_option maxHeartbeats 8000000
set_option maxRecDepth 100000
section
namespace Go.Proofs.YteaocbonofboeaaGreat.CodecP
open Go.RowKit Go.Proofs.YteaocbonofboeaaGreat.C Go.Proofs.YteaocbonofboeaaGreatW.PrintWords Go.Proofs.YteaocbonofboeaaGreatW.PrintLast Go.Proofs.YteaocbonofboeaaGreatW.PrintMore
theorem snocInd{α:Type}{p:List α→Prop}(h0:p [])(h1:∀l x,p l→p (l++[x]))(l:List α):p l:=by
 rw[← l.reverse_reverse]
 induction l.reverse with
 | nil=>exact h0
 | cons x t ih=>rw[List.reverse_cons];exact h1 _ _ ih
def offs(e s n:Int)(l:List Rec):List Int:=(List.range l.length).map (fun i=>((Qyc e s n (l.take i)).2.1.length:Int))
theorem offs_length(e s n:Int)(l:List Rec):(offs e s n l).length=l.length:=by simp[offs]
theorem offs_snoc(e s n:Int)(l:List Rec)(r:Rec):offs e s n (l++[r])=offs e s n l++[((Qyc e s n l).2.1.length:Int)]:=by
 unfold offs;rw[List.length_append,List.length_singleton,List.range_succ,List.map_append,List.map_singleton,List.take_left]
 congr 1
 refine List.map_congr_left fun i hi=>?_
 rw[List.mem_range]at hi;rw[List.take_append_of_le_length (by omega)]
theorem part_snoc(e s n:Int)(l:List Rec)(r:Rec):Qyc e s n (l++[r])=putB e s n (Qyc e s n l) r:=Qyg e s n l _ r
theorem part_ok(e s n:Int)(l:List Rec):((Qyc e s n l).2.1.length:Int)≤16777216→okB e s n l.length (Qyc e s n l)∧(Qyc e s n l).2.2=Qqb l (offs e s n l):=by
 refine snocInd (p:=fun l=>((Qyc e s n l).2.1.length:Int)≤16777216→okB e s n l.length (Qyc e s n l)∧(Qyc e s n l).2.2=Qqb l (offs e s n l)) (fun _=>⟨Qxo e s n 0,rfl⟩) (fun l r ih h=>?_) l;have hl:(Qyc e s n (l++[r])).2.1=(Qyc e s n l).2.1++Qup r:=by rw[part_snoc];rfl
 rw[hl,List.length_append]at h;have hf:0<(Qup r).length:=by unfold Qup Qla;simp
 obtain⟨⟨b1,b2,b3,b4,b5⟩,b6⟩:=ih (by omega);have hm:((Qyc e s n l).2.1.length:Int)%4294967296=((Qyc e s n l).2.1.length:Int):=by omega
 have h2:(Qyc e s n (l++[r])).2.2=(Qyc e s n l).2.2++[⟨Qkt 0 (bytesOf r.f2),((Qyc e s n l).2.1.length:Int)⟩]:=by
  rw[part_snoc];unfold putB;rw[hm]
 have hr:=Qxa (bytesOf r.f2);refine⟨⟨?_,?_,?_,?_,?_⟩,?_⟩
 ·rw[part_snoc];simp[putB]
 ·rw[h2,List.length_append,List.length_append];simp only[List.length_singleton];omega
 ·intro x hx;rw[h2]at hx;rw[hl,List.length_append]
  rcases List.mem_append.1 hx with hx|hx
  ·have:=b3 x hx;exact⟨this.1,by omega⟩
  ·rcases List.mem_singleton.1 hx with rfl
   exact⟨⟨hr,by dsimp only;omega,by dsimp only;omega⟩,by dsimp only;omega⟩
 ·rw[h2,List.pairwise_append];refine⟨b4,List.pairwise_singleton _ _,?_⟩;intro x hx y hy
  rcases List.mem_singleton.1 hy with rfl
  exact(b3 x hx).2
 ·rw[hl,List.length_append];omega
 ·rw[h2,b6,offs_snoc];unfold Qqb;rw[List.zipWith_append (by rw[offs_length])];rfl
theorem frames_count:∀l:List Rec,l.length≤(l.flatMap Qup).length
 | []=>Nat.zero_le _
 | r :: l=>by
  have:=frames_count l;have hf:0<(Qup r).length:=by unfold Qup Qla;simp
  rw[List.flatMap_cons,List.length_append,List.length_cons];omega
theorem seal_form{b:List Int}(hb:Bytes b):∃z,Qla b=z++[0]∧Free z:=⟨_,rfl,(Qvf _ _ (Nat.le_refl _) (hb.app (Qvl 8 _))).1⟩
theorem seal_chunk{b:List Int}(hb:Bytes b){a x y:List Int}(ha:Free a)(h:a++0 :: x=Qla b++y):a++[0]=Qla b∧x=y:=by
 obtain⟨z,hz,hf⟩:=seal_form hb;rw[hz,List.append_assoc]at h;obtain⟨rfl,rfl⟩:=Qvk ha hf h;exact⟨hz.symm,rfl⟩
theorem seal_not_free{b:List Int}{a y:List Int}(ha:Free a):a≠Qla b++y:=by
 intro h;have h0:(0:Int)∈a:=by rw[h];exact List.mem_append_left _ (Qvn _)
 exact ha 0 h0 rfl
theorem all_ff{R:List Int}:Qrr R=true↔∃m,R=List.replicate m 255:=by
 unfold Qrr;rw[List.all_eq_true]
 constructor
 ·intro h;refine⟨R.length,List.eq_replicate_iff.2 ⟨rfl,fun x hx=>by simpa using h x hx⟩⟩
 ·rintro⟨m,rfl⟩ x hx;rw[List.eq_of_mem_replicate hx];rfl
def ScanEnds(e s n:Int)(l:List Rec)(R:List Int)(res:Option (List Rec × List Int × Nat × Bool)):Prop :=
 (res=some (l,offs e s n l,(Qyc e s n l).2.1.length,false)∧∃m,R=List.replicate m 255) ∨
 (res=some (l,offs e s n l,(Qyc e s n l).2.1.length,true)∧l≠[]∧∃m,R=Qnp ((Qyc e s n l).2.1.length:Int) (Qmu (Qyc e s n l).2.2)++List.replicate m 255) ∨
 (res=none∧(∀m,R≠List.replicate m 255)∧(l≠[]→∀m,R≠Qnp ((Qyc e s n l).2.1.length:Int) (Qmu (Qyc e s n l).2.2)++List.replicate m 255))
theorem scan_spec(e s n:Int)(k:Nat)(t:List Int)(ht:Bytes t)(htl:t.length≤1000000)(hk:t.length+5≤k):∀(f:Nat) (l:List Rec) (R:List Int),R.length<f→(∀r∈l,okR r)→t=(Qyc e s n l).2.1++R →
  ∃l' R' res,Qsk k t f l (offs e s n l) (Qyc e s n l).2.1.length=some res∧(∀r∈l',okR r)∧t=(Qyc e s n l').2.1++R'∧Qvw R'∧ScanEnds e s n l' R' res:=by
 intro f
 induction f with
 | zero=>intro l R h;omega
 | succ f ih =>
  intro l R hf hl hR;have hlen:=congrArg List.length hR;rw[List.length_append]at hlen;have hRb:Bytes R:=fun x hx=>ht x (by rw[hR];exact List.mem_append_right _ hx)
  have hdrop:t.drop (Qyc e s n l).2.1.length=R:=by
   conv=>lhs;rw[hR]
   rw[List.drop_left]
  obtain⟨⟨b1,b2,b3,b4,b5⟩,b6⟩:=part_ok e s n l (by omega);have hcnt:=frames_count l;have hpf:=congrArg List.length (Qyv e s n l);rw[List.length_append]at hpf;unfold Qsk;rw[hdrop]
  rcases Qvd R with hfr |⟨a,b,rfl,hfa⟩
  ·rw[Qrz hRb hfr,if_pos (by decide)];refine⟨l,R,_,rfl,hl,hR,fun r x hr he=>seal_not_free hfr he,?_⟩
   by_cases hff:Qrr R=true
   ·rw[if_pos hff];exact .inl ⟨rfl,all_ff.1 hff⟩
   ·rw[if_neg hff];exact .inr (.inr ⟨rfl,fun m hm=>hff (all_ff.2 ⟨m,hm⟩),fun _ m hm=>seal_not_free hfr hm⟩)
  ·have hba:Bytes a:=fun x hx=>hRb x (List.mem_append_left _ hx)
   rw[List.length_append,List.length_cons]at hlen hf;rw[Qsa hba hfa,if_neg (by omega),Int.toNat_natCast,List.take_left];obtain⟨r1,r2,r3,r4,r5,g1,g2,g3⟩:=Qxc hba hfa (by omega) k (by omega);rw[g1,Option.bind_some];dsimp only
   by_cases h5:r5=0
   ·obtain⟨g4,g5⟩:=g2 h5;have hch:=Qkj g4.1;dsimp only at hch;rw[if_pos h5,if_pos (by omega),← offs_snoc e s n l ⟨r1,r2,r3,r4⟩];have hpp:(Qyc e s n (l++[⟨r1,r2,r3,r4⟩])).2.1=(Qyc e s n l).2.1++(a++[0]):=by rw[part_snoc,g5];rfl
    have hpl:(Qyc e s n l).2.1.length+a.length+1=(Qyc e s n (l++[⟨r1,r2,r3,r4⟩])).2.1.length:=by
     rw[hpp,List.length_append,List.length_append,List.length_singleton];omega
    rw[hpl];refine ih _ b (by omega) ?_ (by rw[hpp,hR];simp);intro r hr
    rcases List.mem_append.1 hr with hr|hr
    ·exact hl r hr
    ·rcases List.mem_singleton.1 hr with rfl
     exact g4
   ·obtain⟨out,e0,o1,o2,o3⟩:=Qxb hba hfa (by omega) k (by omega);rw[if_neg h5,o1,Option.bind_some];dsimp only;rw[if_pos (fun h=>⟨(o2 h).1,by have:=(o2 h).2.1;omega⟩)];have hent:(Qqb l (offs e s n l)).length=l.length:=Qqc l _ (offs_length e s n l);have hne:Qqb l (offs e s n l)≠[]↔l≠[]:=by
     rw[← List.length_pos_iff,← List.length_pos_iff,hent]
    have hfs:=foot_spec o2 o3 (u:=((Qyc e s n l).2.1.length:Int)) (l:=l) (ps:=offs e s n l) ⟨by omega,by omega⟩ (by rw[← b6];exact Qxs b4) (by rw[← b6];exact b3) (by omega);rw[← b6]at hfs hne;have hdb:t.drop ((Qyc e s n l).2.1.length+a.length+1)=b:=by
     rw[Nat.add_assoc,← List.drop_drop,hdrop,← List.drop_drop,List.drop_left];rfl
    rw[hdb];have hnr:Qvw (a++0 :: b):=fun r x hr he=>h5 (g3 r hr (seal_chunk (Qvu hr) hfa he).1).1
    have c:∀m,a++0 :: b≠List.replicate m 255:=fun m hm=>by
     have h0:(0:Int)∈List.replicate m (255:Int):=by rw[← hm];simp
     have:=List.eq_of_mem_replicate h0;omega
    refine⟨l,a++0 :: b,_,rfl,hl,hR,hnr,?_⟩
    by_cases hcl:Qro ((Qyc e s n l).2.1.length:Int) l (offs e s n l) (getF e0 out)=true∧Qrr b=true
    ·rw[if_pos hcl];obtain⟨q1,q2⟩:=hfs.1 hcl.1;obtain⟨m,hm⟩:=all_ff.1 hcl.2;refine .inr (.inl ⟨rfl,hne.1 q1,m,?_⟩);rw[← q2,hm];simp
    ·rw[if_neg hcl];refine .inr (.inr ⟨rfl,c,fun hl0 m hm=>hcl ?_⟩);obtain⟨q3,q4⟩:=seal_chunk (footB_bytes _ _) hfa hm;exact⟨hfs.2 ⟨hne.2 hl0,q3⟩,all_ff.2 ⟨m,q4⟩⟩
theorem seg_head(e s n:Int)(l:List Rec)(b:Bool):∃R,segB e s n l b=Qlf e s n++R:=by
 unfold segB Qyb;rw[Qyv,List.append_assoc,List.append_assoc];exact⟨_,rfl⟩
theorem seg_pad{m:Nat}{a b t:List Int}{N:Nat}(ht:t=a++List.replicate m 255)(hl:t.length=N):t=a++List.replicate (N-a.length) 255:=by
 have:=congrArg List.length ht;rw[List.length_append,List.length_replicate]at this;rw[ht,show N-a.length=m by omega]
theorem parse_spec{e s:Int}(hG:Good e s){n:Int}(h0:0≤n)(h1:n<s)(t:List Int)(ht:Bytes t)(htl:t.length≤1000000)(hsize:(t.length:Int)=szN e)(k:Nat)(hk:t.length+100≤k) :
  (∃l sl,Qbw.f k e s n t=some (l,offs e s n l,((Qyc e s n l).2.1.length:Int),sl,0)∧(∀r∈l,okR r)∧(sl=true→l≠[])∧t=segB e s n l sl∧((Qyc e s n l).2.1.length:Int)≤1000000) ∨
  (Qbw.f k e s n t=some ([],[],0,false,4)∧∀l sl,(∀r∈l,okR r)→(sl=true→l≠[])→t≠segB e s n l sl):=by
 have hph:=Qub hG n h0 h1;have hcs:=Qtu hG;have hHb:Bytes (Qlf e s n):=by
  obtain⟨g1,g2,g3,g4⟩:=hG;exact head_bytes ⟨by omega,by omega⟩ ⟨by omega,by omega⟩ ⟨by omega,by omega⟩
 unfold Qbw.f;rw[hph,Option.bind_some];dsimp only;rw[if_neg (by decide),hcs,Option.bind_some,if_pos ⟨ht,hHb,by omega⟩,if_neg (by omega)]
 by_cases hhead:t.take (Qlf e s n).length=Qlf e s n
 ·rw[if_neg (by simpa using hhead)];have htR:t=Qlf e s n++t.drop (Qlf e s n).length:=by
   conv=>lhs;rw[← List.take_append_drop (Qlf e s n).length t,hhead]
  obtain⟨l,R,res,s1,s2,s3,s4,s5⟩:=scan_spec e s n k t ht htl (by omega) k [] (t.drop (Qlf e s n).length) qq_24 (fun r h=>by cases h) htR;have a:Qsk k t k [] [] (Qlf e s n).length=some res:=s1;rw[a,Option.bind_some];have htl2:=s3;rw[Qyv,List.append_assoc]at htl2;have hll:((Qyc e s n l).2.1.length:Int)≤1000000:=by
   have:=congrArg List.length s3;rw[List.length_append]at this;omega
  obtain⟨okb,_⟩:=part_ok e s n l (by omega);have hu:Qnw (Qyc e s n l)=((Qyc e s n l).2.1.length:Int):=by have:=okb.1;unfold Qnw;omega
  have hfit:t.length=(szN e).toNat:=by omega
  have hseg0:∀m,R=List.replicate m 255→t=segB e s n l false:=fun m hm=>by
   have:Qyb (Qyc e s n l) false=(Qyc e s n l).2.1:=by simp[Qyb]
   unfold segB;rw[this];exact seg_pad (b:=[]) (m:=m) (by rw[← hm];exact s3) hfit
  have hseg1:∀m,R=Qnp ((Qyc e s n l).2.1.length:Int) (Qmu (Qyc e s n l).2.2)++List.replicate m 255→t=segB e s n l true:=fun m hm=>by
   have:Qyb (Qyc e s n l) true=(Qyc e s n l).2.1++Qnp ((Qyc e s n l).2.1.length:Int) (Qmu (Qyc e s n l).2.2):=by unfold Qyb;rw[if_pos rfl,hu]
   unfold segB;rw[this];exact seg_pad (b:=[]) (m:=m) (by rw[List.append_assoc,← hm];exact s3) hfit
  have huniq:∀l2 sl,(∀r∈l2,okR r)→t=segB e s n l2 sl→l2=l:=fun l2 sl hl2 h=>by
   obtain⟨T,hT,hs⟩:=Qyw e s n l2 sl;rw[hs]at h;rw[htl2]at h;exact((Qvx s2 hl2 s4 hT (List.append_cancel_left h)).1).symm
  have hseg0':t=segB e s n l false→∃m,R=List.replicate m 255:=fun h=>by
   have e1:Qyb (Qyc e s n l) false=(Qyc e s n l).2.1:=by simp[Qyb]
   unfold segB at h;rw[e1]at h;rw[h]at s3;exact⟨_,(List.append_cancel_left s3).symm⟩
  have hseg1':t=segB e s n l true→∃m,R=Qnp ((Qyc e s n l).2.1.length:Int) (Qmu (Qyc e s n l).2.2)++List.replicate m 255:=fun h=>by
   have e1:Qyb (Qyc e s n l) true=(Qyc e s n l).2.1++Qnp ((Qyc e s n l).2.1.length:Int) (Qmu (Qyc e s n l).2.2):=by unfold Qyb;rw[if_pos rfl,hu]
   unfold segB at h;rw[e1,List.append_assoc]at h;rw[h]at s3;exact⟨_,(List.append_cancel_left s3).symm⟩
  rcases s5 with⟨rfl,m,hm⟩ |⟨rfl,hne,m,hm⟩ |⟨rfl,c,d⟩
  ·exact .inl ⟨l,false,rfl,s2,fun h=>absurd h (by decide),hseg0 m hm,hll⟩
  ·exact .inl ⟨l,true,rfl,s2,fun _=>hne,hseg1 m hm,hll⟩
  ·refine .inr ⟨rfl,fun l2 sl hl2 hz h=>?_⟩;obtain rfl:=huniq l2 sl hl2 h
   cases sl with
   | false =>
    obtain⟨m,hm⟩:=hseg0' h;exact c m hm
   | true =>
    obtain⟨m,hm⟩:=hseg1' h;exact d (hz rfl) m hm
 ·rw[if_pos hhead];refine .inr ⟨rfl,fun l sl _ _ h=>?_⟩;obtain⟨R,hR⟩:=seg_head e s n l sl;apply hhead;rw[h,hR,List.take_left]
abbrev Vw:=S45
abbrev Pt:=List Rec × Bool
def segsB(e s:Int):Int→List Pt→List Int
 | _,[]=>[]
 | n,p :: t=>segB e s n p.1 p.2++segsB e s (n+1) t
def SegOk(e s n:Int)(p:Pt):Prop:=(∀r∈p.1,okR r)∧(p.2=true→p.1≠[])∧(segB e s n p.1 p.2).length=(szN e).toNat
def SegsOk(e s:Int):Int→List Pt→Prop
 | _,[]=>True
 | n,p :: t=>SegOk e s n p∧SegsOk e s (n+1) t
def viewOf(e s n:Int)(p:Pt):Vw:=⟨p.1,offs e s n p.1,((Qyc e s n p.1).2.1.length:Int),p.2⟩
def viewsOf(e s:Int):Int→List Pt→List Vw
 | _,[]=>[]
 | n,p :: t=>viewOf e s n p :: viewsOf e s (n+1) t
theorem segs_len{e s:Int}:∀(ps:List Pt) (n:Int),SegsOk e s n ps→(segsB e s n ps).length=ps.length*(szN e).toNat
 | [],n,_=>by simp[segsB]
 | p :: t,n,h=>by
  rw[segsB,List.length_append,h.1.2.2,segs_len t _ h.2,List.length_cons,Nat.succ_mul];omega
theorem views_len(e s:Int):∀(ps:List Pt) (n:Int),(viewsOf e s n ps).length=ps.length
 | [],n=>rfl
 | p :: t,n=>by rw[viewsOf,List.length_cons,views_len e s t,List.length_cons]
theorem views_recs(e s:Int):∀(ps:List Pt) (n:Int),(viewsOf e s n ps).flatMap (fun v=>v.f0)=ps.flatMap (fun p=>p.1)
 | [],n=>rfl
 | p :: t,n=>by rw[viewsOf,List.flatMap_cons,views_recs e s t,List.flatMap_cons];rfl
theorem seg_frames_le(e s n:Int)(g:List Rec)(b:Bool):g.length≤(segB e s n g b).length:=by
 have h:=frames_count g;have h2:=congrArg List.length (Qyv e s n g);unfold segB Qyb;rw[List.length_append]at h2;rw[List.length_append,List.length_append];omega
theorem segs_count{e s:Int}:∀(ps:List Pt) (n:Int),SegsOk e s n ps→(ps.flatMap (fun p=>p.1)).length≤ps.length*(szN e).toNat
 | [],n,_=>by simp
 | p :: t,n,h=>by
  have h1:=seg_frames_le e s n p.1 p.2;rw[h.1.2.2]at h1;have h2:=segs_count t _ h.2;rw[List.flatMap_cons,List.length_append,List.length_cons,Nat.succ_mul];omega
theorem seg_flag{e s n:Int}{g:List Rec}(h:segB e s n g true=segB e s n g false):False:=by
 have e0:Qyb (Qyc e s n g) false=(Qyc e s n g).2.1:=by simp[Qyb]
 unfold segB at h;rw[e0]at h;unfold Qyb at h;rw[if_pos rfl,List.append_assoc]at h;have h1:=List.append_cancel_left h;have h0:(0:Int)∈List.replicate ((szN e).toNat-(Qyc e s n g).2.1.length) (255:Int):=by rw[← h1];exact List.mem_append_left _ (Qvn _)
 have:=List.eq_of_mem_replicate h0;omega
theorem seg_uniq{e s n:Int}{p q:Pt}(hp:SegOk e s n p)(hq:SegOk e s n q)(h:segB e s n p.1 p.2=segB e s n q.1 q.2):p=q:=by
 obtain⟨g,b⟩:=p;obtain⟨g',b'⟩:=q;have h1:g=g':=Qyx hp.1 hq.1 h;subst h1
 cases b<;>cases b'
 ·rfl
 ·exact(seg_flag h.symm).elim
 ·exact(seg_flag h).elim
 ·rfl
theorem segs_uniq{e s:Int}(hG:Good e s):∀(ps qs:List Pt) (n:Int),SegsOk e s n ps→SegsOk e s n qs→segsB e s n ps=segsB e s n qs→ps=qs
 | [],[],n,_,_,_=>rfl
 | [],q :: t,n,_,h2,h=>by
  have hz:=Qtt hG.1 hG.2.1;have:=congrArg List.length h;rw[segsB,segsB,List.length_append,h2.1.2.2,List.length_nil]at this;omega
 | p :: t,[],n,h1,_,h=>by
  have hz:=Qtt hG.1 hG.2.1;have:=congrArg List.length h;rw[segsB,segsB,List.length_append,h1.1.2.2,List.length_nil]at this;omega
 | p :: t,q :: u,n,h1,h2,h=>by
  rw[segsB,segsB]at h;obtain⟨a,b⟩:=List.append_inj h (by rw[h1.1.2.2,h2.1.2.2]);rw[seg_uniq h1.1 h2.1 a,segs_uniq hG t u _ h1.2 h2.2 b]
theorem imgP_consV(e s:Int)(n:Int)(g:List Rec)(t:List (List Rec)):∃b,imgP e s n (g :: t)=segB e s n g b++imgP e s (n+1) t:=by
 cases t with
 | nil=>exact⟨false,by simp[imgP]⟩
 | cons h t=>exact⟨true,rfl⟩
theorem img_segs{e s:Int}(hG:Good e s):∀(ps:List (List Rec)) (n:Int),AllG e s n ps→(∀g∈ps,∀r∈g,okR r)→∃qs:List Pt,SegsOk e s n qs∧segsB e s n qs=imgP e s n ps∧qs.map (fun p=>p.1)=ps
 | [],n,_,_=>⟨[],trivial,rfl,rfl⟩
 | g :: t,n,h,hr=>by
  obtain⟨b,hb⟩:=imgP_consV e s n g t;obtain⟨qs,h1,h2,h3⟩:=img_segs hG t (n+1) h.2 (fun x hx=>hr x (List.mem_cons_of_mem _ hx));exact⟨(g,b) :: qs,⟨⟨hr g (List.mem_cons_self ..),fun _=>h.1.2.2.2.1,Qyt hG h.1 b⟩,h1⟩,by rw[segsB,h2,hb],by rw[List.map_cons,h3]⟩
def cntE(e s:Int)(N:Nat):Int:=if(N:Int) > szN e*s then 7 else if N%(szN e).toNat=0 then 0 else 4
theorem count_spec{e s:Int}(hG:Good e s)(N:Nat)(hN:N≤1000000000000):Qap.f e s (IntKind.u64.wrap (N:Int))=some (if cntE e s N=0 then((N/(szN e).toNat:Nat):Int)else 0,cntE e s N):=by
 have hz:=Qtt hG.1 hG.2.1;obtain⟨g1,g2,g3,g4⟩:=hG;have hm0:0≤szN e*s:=Int.mul_nonneg (by omega) (by omega);have hm1:szN e*s≤16777216*65536:=Int.mul_le_mul hz.2 g4 (by omega) (by omega);obtain⟨z,hzz⟩:∃z:Nat,szN e=(z:Int):=⟨(szN e).toNat,by omega⟩;unfold Qap.f cntE;rw[Qtr ⟨g1,g2,g3,g4⟩,Option.bind_some,if_pos rfl,Qtu ⟨g1,g2,g3,g4⟩,Option.bind_some,IntWalk.u64_in (szN e) (by omega),IntWalk.u64_in s (by omega),IntWalk.u64_in (szN e*s) (by omega),IntWalk.u64_in (N:Int) (by omega)]
 by_cases h1:(N:Int) > szN e*s
 ·rw[if_pos h1,if_pos h1,if_neg (by decide)]
 ·rw[if_neg h1,if_neg h1,if_neg (by omega)];have ht:Int.tmod (N:Int) (szN e)=((N%(szN e).toNat:Nat):Int):=by
   rw[Int.tmod_eq_emod_of_nonneg (by omega),hzz,Int.toNat_natCast]
   norm_cast
  have hd:Int.tdiv (N:Int) (szN e)=((N/(szN e).toNat:Nat):Int):=by
   rw[Int.tdiv_eq_ediv_of_nonneg (by omega),hzz,Int.toNat_natCast]
   norm_cast
  have hdl:N/(szN e).toNat≤65536:=by
   have a1:N≤65536*(szN e).toNat:=by
    have:szN e*s≤szN e*65536:=Int.mul_le_mul_of_nonneg_left g4 (by omega);omega
   have:=Nat.div_le_div_right (c:=(szN e).toNat) a1;rw[Nat.mul_div_cancel _ (by omega)]at this;exact this
  rw[ht,hd];obtain⟨q,hq⟩:∃q,q=N/(szN e).toNat:=⟨_,rfl⟩;obtain⟨y,hy⟩:∃y,y=N%(szN e).toNat:=⟨_,rfl⟩;rw[← hq]at hdl ⊢;rw[← hy];clear ht hd hq hy
  by_cases h2:y=0
  ·rw[if_pos (by omega),if_pos h2,if_pos rfl,IntWalk.u64_in _ (by omega),show((q:Nat):Int)%4294967296=((q:Nat):Int)by omega]
  ·rw[if_neg (by omega),if_neg h2,if_neg (by decide)]
theorem w64V(x:Nat)(h:x<4611686018427387904):wrap64 (x:Int)=(x:Int):=by unfold wrap64;omega
theorem views_l0{e s:Int}(hG:Good e s)(hz1:szN e≤1000000)(b:List Int)(hb:Bytes b)(m:Nat)(hms:(m:Int)≤s)(hbl:b.length=m*(szN e).toNat):∀(d i k:Nat) (out:List Vw),i+d=m→out.length≤i→1000200≤k →
  (∃ps,SegsOk e s (i:Int) ps∧ps.length=d∧b.drop (i*(szN e).toNat)=segsB e s (i:Int) ps∧Qat.l0 (k+d+1) b out (szN e) (m:Int) (i:Int) e s=some (out++viewsOf e s (i:Int) ps,0)) ∨
  (Qat.l0 (k+d+1) b out (szN e) (m:Int) (i:Int) e s=some ([],4)∧∀ps,SegsOk e s (i:Int) ps→b.drop (i*(szN e).toNat)≠segsB e s (i:Int) ps)
 | 0,i,k,out,hd,ho,hk=>by
  refine .inl ⟨[],trivial,rfl,?_,?_⟩
  ·rw[List.drop_of_length_le (by rw[hbl,show i=m by omega];exact Nat.le_refl _)];rfl
  ·unfold Qat.l0;rw[if_neg (by omega)];simp[viewsOf]
 | d + 1,i,k,out,hd,ho,hk=>by
  have hz:=Qtt hG.1 hG.2.1;have hG':=hG;obtain⟨g1,g2,g3,g4⟩:=hG';obtain⟨z,hzz⟩:∃z:Nat,z=(szN e).toNat:=⟨_,rfl⟩;have hze:szN e=(z:Int):=by omega
  rw[← hzz]at hbl ⊢;have hi:i<m:=by omega
  have hi2:i≤65536:=by omega
  have hb1:i*z≤65536*1000000:=Nat.mul_le_mul hi2 (by omega);have hb2:(i+1)*z≤m*z:=Nat.mul_le_mul_right _ hi;have hb3:(i+1)*z=i*z+z:=Nat.succ_mul _ _;have e2:((i:Int)+1)%4294967296=((i+1:Nat):Int):=by omega
  have HE2:=QA e2;clear e2;have HE3:=QA (show wrap64 (((i+1:Nat):Int)*szN e)=(((i+1)*z:Nat):Int)by
   rw[hze,← Int.natCast_mul,w64V _ (by omega)])
  have HE1:=QA (show wrap64 (wrap64 (i:Int)*szN e)=((i*z:Nat):Int)by
   rw[w64V i (by omega),hze,← Int.natCast_mul,w64V _ (by omega)])
  obtain⟨t,ht⟩:∃t,t=(b.take ((i+1)*z)).drop (i*z):=⟨_,rfl⟩;have htl:t.length=z:=by rw[ht,List.length_drop,List.length_take];omega
  have htd:(b.drop (i*z)).take z=t:=by rw[ht,List.drop_take,hb3,Nat.add_sub_cancel_left]
  have htb:Bytes t:=by rw[ht];exact(hb.take _).drop _
  have hdd:b.drop (i*z)=t++b.drop ((i+1)*z):=by
   rw[← htd,hb3,← List.drop_drop,List.take_append_drop]
  have hne:∀ps,SegsOk e s (i:Int) ps→b.drop (i*z)=segsB e s (i:Int) ps→∃p u,ps=p :: u∧SegOk e s (i:Int) p∧SegsOk e s ((i+1:Nat):Int) u∧t=segB e s (i:Int) p.1 p.2∧b.drop ((i+1)*z)=segsB e s ((i+1:Nat):Int) u:=by
   intro ps hps he
   cases ps with
   | nil =>
    have:=congrArg List.length he;rw[hdd,List.length_append,htl]at this;simp[segsB]at this;omega
   | cons p u =>
    rw[segsB,hdd]at he;obtain⟨a1,a2⟩:=List.append_inj he (by rw[htl,hps.1.2.2,hzz]);exact⟨p,u,rfl,hps.1,hps.2,a1,a2⟩
  unfold Qat.l0;rw[if_pos (by omega),HE1.out,HE2.out,HE3.out,if_pos (by omega),if_pos (by omega),if_pos (by omega),Int.toNat_natCast,Int.toNat_natCast,← ht,show k+(d+1)=k+d+1 by omega]
  rcases parse_spec hG (n:=(i:Int)) (by omega) (by omega) t htb (by omega) (by omega) (k+d+1) (by omega)with⟨l,sl,p1,p2,p3,p4,p5⟩ |⟨p1,p2⟩
  ·rw[p1,Option.bind_some];dsimp only;rw[if_pos rfl,if_pos (by omega)];have hok:SegOk e s (i:Int) (l,sl):=⟨p2,p3,by rw[← p4,htl,hzz]⟩
   rcases views_l0 hG hz1 b hb m hms (by rw[← hzz];exact hbl) d (i+1) k (out++[viewOf e s (i:Int) (l,sl)]) (by omega) (by rw[List.length_append,List.length_singleton];omega) hk with⟨ps,q1,q2,q3,q4⟩ |⟨q1,q2⟩
   ·refine .inl ⟨(l,sl) :: ps,⟨hok,q1⟩,by rw[List.length_cons,q2],?_,?_⟩
    ·rw[hdd,segsB,← p4];rw[← hzz]at q3;rw[q3];rfl
    ·refine Eq.trans q4 ?_;rw[List.append_assoc];rfl
   ·refine .inr ⟨q1,fun ps hps he=>?_⟩;obtain⟨p,u,_,_,h2,_,h4⟩:=hne ps hps he;rw[← hzz]at q2;exact q2 u h2 h4
  ·rw[p1,Option.bind_some];dsimp only;rw[if_neg (by decide)];refine .inr ⟨rfl,fun ps hps he=>?_⟩;obtain⟨p,u,_,h1,_,h3,_⟩:=hne ps hps he;exact p2 p.1 p.2 h1.1 h1.2.1 h3
theorem views_is{e s:Int}(hG:Good e s)(hz1:szN e≤1000000)(b:List Int)(hb:Bytes b)(hbl:b.length≤1000000)(k:Nat)(hk:3000000≤k) :
  (∃ps,SegsOk e s 0 ps∧(ps.length:Int)≤s∧b=segsB e s 0 ps∧Qat.f k e s b=some (viewsOf e s 0 ps,0)) ∨
  (Qat.f k e s b=some ([],if cntE e s b.length=0 then 4 else cntE e s b.length)∧∀ps,SegsOk e s 0 ps→(ps.length:Int)≤s→b≠segsB e s 0 ps):=by
 have hz:=Qtt hG.1 hG.2.1;have hG':=hG;obtain⟨g1,g2,g3,g4⟩:=hG';unfold Qat.f;rw[count_spec hG b.length (by omega),Option.bind_some];dsimp only
 by_cases hc:cntE e s b.length=0
 ·rw[if_pos hc,if_pos hc,Qtu hG,Option.bind_some,if_pos hc];obtain⟨m,hm⟩:∃m,m=b.length/(szN e).toNat:=⟨_,rfl⟩;have hcc:b.length%(szN e).toNat=0∧¬(b.length:Int) > szN e*s:=by
   unfold cntE at hc
   by_cases a:(b.length:Int) > szN e*s
   ·rw[if_pos a]at hc;omega
   ·rw[if_neg a]at hc
    by_cases a2:b.length%(szN e).toNat=0
    ·exact⟨a2,a⟩
    ·rw[if_neg a2]at hc;omega
  have hbm:b.length=m*(szN e).toNat:=by
   have:=Nat.div_add_mod b.length (szN e).toNat;rw[hcc.1,Nat.add_zero,Nat.mul_comm]at this;rw[hm];exact this.symm
  have hms:(m:Int)≤s:=by
   apply Decidable.byContradiction;intro h;have h1:(s.toNat+1)*(szN e).toNat≤m*(szN e).toNat:=Nat.mul_le_mul_right _ (by omega);rw[Nat.succ_mul,← hbm]at h1;have h2:((s.toNat*(szN e).toNat:Nat):Int)=szN e*s:=by
    rw[Int.natCast_mul,Int.toNat_of_nonneg (by omega),Int.toNat_of_nonneg (by omega),Int.mul_comm]
   omega
  have hml:m≤b.length:=by rw[hm];exact Nat.div_le_self _ _
  rw[← hm];have hrun:=views_l0 hG hz1 b hb m hms hbm m 0 (k-m-1) [] (by omega) (Nat.zero_le _) (by omega);rw[show k-m-1+m+1=k by omega,Nat.zero_mul,List.drop_zero]at hrun
  rcases hrun with⟨ps,q1,q2,q3,q4⟩ |⟨q1,q2⟩
  ·exact .inl ⟨ps,q1,by omega,q3,q4⟩
  ·exact .inr ⟨q1,fun ps h1 _=>q2 ps h1⟩
 ·rw[if_neg hc,if_neg hc];refine .inr ⟨rfl,fun ps h1 h2 h3=>hc ?_⟩;have hl:=segs_len ps 0 h1;rw[← h3]at hl;unfold cntE;rw[hl];have h4:((ps.length*(szN e).toNat:Nat):Int)≤szN e*s:=by
   rw[Int.natCast_mul,Int.toNat_of_nonneg (by omega),Int.mul_comm];exact Int.mul_le_mul_of_nonneg_left h2 (by omega)
  rw[if_neg (by omega),Nat.mul_mod_left,if_pos rfl]
theorem rdVw(l:List Vw)(i:Nat)(h:i<l.length):Qip l (i:Int)=l[i]:=by simp[Qip,List.getElem?_eq_getElem h]
noncomputable def endD(k:Nat)(b:List Int)(l:List Rec)(e s:Int):Option (List Rec × Int):=(Qbk.f k e s l).bind fun q=>(if q.2=0 then((Qad.f q.1 b).bind fun t=>(if t=true then(some (l,0))else(some ([],4))))else(some ([],4)))
theorem decode_l0(b:List Int)(vs:List Vw)(hv:vs.length≤1000000)(e s:Int):∀(d i k:Nat) (acc:List Rec),i+d=vs.length→acc.length+((vs.drop i).flatMap (fun v=>v.f0)).length≤1000000→Qar.l0 (k+d+1) b acc vs (vs.length:Int) (i:Int) e s=endD k b (acc++(vs.drop i).flatMap (fun v=>v.f0)) e s
 | 0,i,k,acc,hd,ha=>by
  unfold Qar.l0;rw[if_neg (by omega),List.drop_of_length_le (by omega)];simp[endD]
 | d+1,i,k,acc,hd,ha=>by
  have hi:i<vs.length:=by omega
  rw[List.drop_eq_getElem_cons hi,List.flatMap_cons]at ha ⊢;rw[List.length_append]at ha;unfold Qar.l0;rw[if_pos (by omega),if_pos (by omega),if_pos (by omega),rdVw vs i hi,if_pos (by omega),Qsg i (by omega),show k+(d+1)=k+d+1 by omega,decode_l0 b vs hv e s d (i+1) k (acc++vs[i].f0) (by omega) (by rw[List.length_append];omega),List.append_assoc]
def ImgOf(e s:Int)(L:List Rec)(b:List Int):Prop:=L.length≤1000000∧Wf L∧(Qux e s L).2.2=0∧b=imgP e s 0 (Qyo (Quu e s L).1 L)
theorem AllG.lenV{e s:Int}:∀ {ps:List (List Rec)} {n:Int},0≤n→n≤s→AllG e s n ps→(ps.length:Int)+n≤s
 | [],n,_,h,_=>by simpa using h
 | g :: t,n,h0,_,h=>by
  have:=AllG.lenV (ps:=t) (n:=n+1) (by omega) (by have:=h.1.2.1;omega) h.2;rw[List.length_cons];omega
theorem img_parts{e s:Int}{L:List Rec}{b:List Int}(h:ImgOf e s L b):AllG e s 0 (Qyo (Quu e s L).1 L)∧(∀g∈Qyo (Quu e s L).1 L,∀r∈g,okR r):=by
 obtain⟨h1,h2,h3,h4⟩:=h;obtain⟨hg,hc,hil,f1,hA,hst⟩:=Qyr e s L (2*L.length+10) h1 h2 (by omega) h3;refine⟨hA,fun g hg2 r hr2=>?_⟩;have hm:r∈L:=by
  rw[← Qyp (Quu e s L).1 L];exact List.mem_flatten.2 ⟨g,hg2,hr2⟩
 exact⟨Quj hc r hm,h2 r hm⟩
theorem img_one{e s:Int}(hG:Good e s){L L':List Rec}{b:List Int}(h:ImgOf e s L b)(h':ImgOf e s L' b):L=L':=by
 obtain⟨hA,hr⟩:=img_parts h;obtain⟨hA',hr'⟩:=img_parts h';have he:=h.2.2.2.symm.trans h'.2.2.2;have hp:=img_inj hG _ _ 0 hA hA' hr hr' he;rw[← Qyp (Quu e s L).1 L,hp,Qyp]
theorem decode_is{e s:Int}(hG:Good e s)(hz1:szN e≤1000000)(b:List Int)(hb:Bytes b)(hbl:b.length≤1000000)(k:Nat)(hk:10000000≤k) :
  (∃L,Qar.f k e s b=some (L,0)∧ImgOf e s L b∧cntE e s b.length=0) ∨
  (Qar.f k e s b=some ([],if cntE e s b.length=0 then 4 else cntE e s b.length)∧∀L,¬ImgOf e s L b):=by
 have hz:=Qtt hG.1 hG.2.1;have hne0:(if cntE e s b.length=0 then(4:Int)else cntE e s b.length)≠0:=by
  split
  ·decide
  ·assumption
 have himg:∀L,ImgOf e s L b→∃qs,SegsOk e s 0 qs∧(qs.length:Int)≤s∧b=segsB e s 0 qs∧qs.flatMap (fun p=>p.1)=L:=by
  intro L hL;obtain⟨hA,hr⟩:=img_parts hL;obtain⟨qs,q1,q2,q3⟩:=img_segs hG _ 0 hA hr;have hlen:=AllG.lenV (Int.le_refl 0) (by have:=hG.2.2.1;omega) hA;refine⟨qs,q1,?_,by rw[q2];exact hL.2.2.2,?_⟩
  ·rw[← q3,List.length_map]at hlen;omega
  ·rw[List.flatMap_def,q3,Qyp]
 unfold Qar.f
 rcases views_is hG hz1 b hb hbl k (by omega)with⟨ps,q1,q2,q3,q4⟩ |⟨q1,q2⟩
 ·have hlp:=segs_len ps 0 q1;rw[← q3]at hlp;have hpl:ps.length≤b.length:=by rw[hlp];exact Nat.le_mul_of_pos_right _ (by omega)
  have hcn:=segs_count ps 0 q1;rw[← hlp]at hcn;have hcnt:cntE e s b.length=0:=by
   unfold cntE;rw[hlp];have h4:((ps.length*(szN e).toNat:Nat):Int)≤szN e*s:=by
    rw[Int.natCast_mul,Int.toNat_of_nonneg (by omega),Int.mul_comm];exact Int.mul_le_mul_of_nonneg_left q2 (by omega)
   rw[if_neg (by omega),Nat.mul_mod_left,if_pos rfl]
  rw[q4,Option.bind_some];dsimp only;rw[if_pos rfl];have hrun:=decode_l0 b (viewsOf e s 0 ps) (by rw[views_len];omega) e s ps.length 0 (k-ps.length-1) [] (by rw[views_len];omega) (by rw[List.drop_zero,views_recs,List.length_nil];omega);rw[show k-ps.length-1+ps.length+1=k by omega,List.drop_zero,views_recs,List.nil_append]at hrun;obtain⟨L,hL⟩:∃L,L=ps.flatMap (fun p=>p.1):=⟨_,rfl⟩;rw[← hL]at hrun hcn;have hrun':Qar.l0 k b [] (viewsOf e s 0 ps) ((viewsOf e s 0 ps).length:Int) 0 e s=_:=hrun;rw[hrun'];have hok:∀r∈L,okR r:=by
   have:∀(ps:List Pt) (n:Int),SegsOk e s n ps→∀r∈ps.flatMap (fun p=>p.1),okR r:=by
    intro ps
    induction ps with
    | nil=>intro n _ r hr;simp at hr
    | cons p t ih =>
     intro n h r hr;rw[List.flatMap_cons]at hr
     rcases List.mem_append.1 hr with hr|hr
     ·exact h.1.1 r hr
     ·exact ih _ h.2 r hr
   rw[hL];exact this ps 0 q1
  have hw:Wf L:=fun r hr=>(hok r hr).2
  unfold endD
  by_cases hp:(Qux e s L).2.2=0
  ·obtain⟨hg,hc,hil,f1,hA,hst⟩:=Qyr e s L (k-ps.length-1) (by omega) hw (by omega) hp;rw[f1,Option.bind_some];dsimp only;rw[if_pos rfl];unfold Qad.f;rw[Option.bind_some]
   by_cases he:imgP e s 0 (Qyo (Quu e s L).1 L)=b
   ·refine .inl ⟨L,?_,⟨by omega,hw,hp,he.symm⟩,hcnt⟩;rw[he,if_pos (by simp)]
   ·refine .inr ⟨?_,fun L' hL'=>?_⟩
    ·rw[if_neg,if_pos hcnt];intro h;apply he;have h2:=eq_of_beq h;have hb2:Bytes (imgP e s 0 (Qyo (Quu e s L).1 L)):=by
      refine img_bytes hG _ 0 hA (fun g a r hr2=>?_);have hm:r∈L:=by
       rw[← Qyp (Quu e s L).1 L];exact List.mem_flatten.2 ⟨g,a,hr2⟩
      exact hok r hm
     have h3:=(Qxd _ _).1 h2;rw[bytesOf_nums hb2,bytesOf_nums hb]at h3;exact h3
    ·obtain⟨qs,a1,a2,a3,a4⟩:=himg L' hL';have hqs:=segs_uniq hG ps qs 0 q1 a1 (q3.symm.trans a3);have hLL:L'=L:=by rw[hL,hqs,a4]
     subst hLL;exact he hL'.2.2.2.symm
  ·have hbad:=Qxy e s L (k-ps.length-1) (by omega) hw (by omega) hp;rw[hbad,Option.bind_some];dsimp only;rw[if_neg hp];refine .inr ⟨by rw[if_pos hcnt],fun L' hL'=>?_⟩;obtain⟨qs,a1,a2,a3,a4⟩:=himg L' hL';have hqs:=segs_uniq hG ps qs 0 q1 a1 (q3.symm.trans a3);have hLL:L'=L:=by rw[hL,hqs,a4]
   subst hLL;exact hp hL'.2.2.1
 ·rw[q1,Option.bind_some];dsimp only;rw[if_neg hne0];refine .inr ⟨rfl,fun L hL=>?_⟩;obtain⟨qs,a1,a2,a3,a4⟩:=himg L hL;exact q2 qs a1 a2 a3
theorem sameD_l0(a:List Rec)(hl:a.length≤1000000):∀(d j k:Nat),j+d=a.length→Qba.l0 (k+d+1) a a (a.length:Int) (j:Int)=some true
 | 0,j,k,hd=>by
  unfold Qba.l0;rw[if_neg (by omega)]
 | d+1,j,k,hd=>by
  have hj:j<a.length:=by omega
  unfold Qba.l0;rw[if_pos (by omega),if_pos (by omega),if_pos (by omega),if_pos (by omega),if_neg (by simp),Qsg j (by omega),show k+(d+1)=k+d+1 by omega];exact sameD_l0 a hl d (j+1) k (by omega)
theorem sameD_is(a:List Rec)(hl:a.length≤1000000)(k:Nat)(hk:a.length+1≤k):Qba.f k a a=some true:=by
 unfold Qba.f;rw[if_pos rfl];have h:=sameD_l0 a hl a.length 0 (k-a.length-1) (by omega);rw[show k-a.length-1+a.length+1=k by omega]at h;exact h
theorem szN_12:szN 12=4096:=by decide
theorem img_nil:ImgOf 12 1 [] []:=⟨by simp,fun r hr=>(by cases hr),by decide,rfl⟩
theorem lives17(k:Nat)(hk:10000000≤k):Qaz.f k=some true:=by
 have hG:Good 12 1:=⟨by omega,by omega,by omega,by omega⟩;unfold Qaz.f
 rcases decode_is hG (by rw[szN_12];omega) [] (by simp[Bytes]) (by simp) k hk with⟨L,h1,h2,_⟩ |⟨_,h2⟩
 ·have hL:=img_one hG h2 img_nil;subst hL;rw[h1,Option.bind_some,show Qax.f=some true from rfl,Option.bind_some,if_pos rfl,if_pos rfl];rfl
 ·exact absurd img_nil (h2 [])
theorem wf_rowD{l:List Rec}(h:∀x∈l,(Lit.int .u64 x.f1).wf=true):Wf l:=by
 intro r hr;have h1:=h r hr;simp only[Lit.wf,IntKind.min,IntKind.max,IntKind.signed,IntKind.bits,Bool.and_eq_true,decide_eq_true_eq]at h1;simp at h1;omega
theorem wf_u8D{x:Int}(h1:(Lit.int .u8 x).wf=true):0≤x∧x<256:=by
 simp only[Lit.wf,IntKind.min,IntKind.max,IntKind.signed,IntKind.bits,Bool.and_eq_true,decide_eq_true_eq]at h1;simp at h1;omega
theorem small_img{x0:Int}(hx:0≤x0∧x0<256):Qaw.f x0=some (12+x0%2,1+x0/2%8)∧Good (12+x0%2) (1+x0/2%8)∧szN (12+x0%2)≤8192∧1+x0/2%8≤8:=by
 refine⟨by unfold Qaw.f;rw[if_pos hx.1,if_pos hx.2],⟨by omega,by omega,by omega,by omega⟩,?_,by omega⟩;have:12+x0%2=12∨12+x0%2=13:=by omega
 rcases this with h|h<;>rw[h]<;>decide
theorem img_small{e s:Int}(hG:Good e s)(hz:szN e≤8192)(hs:s≤8){L:List Rec}{b:List Int}(h:ImgOf e s L b):b.length≤65536∧Bytes b:=by
 obtain⟨hA,hr⟩:=img_parts h;have hpl:=AllG.lenV (Int.le_refl 0) (by have:=hG.2.2.1;omega) hA;have hil:=Qyu hG _ 0 hA;have hb:=img_bytes hG _ 0 hA hr;have hsz:=Qtt hG.1 hG.2.1;rw[← h.2.2.2]at hil hb;refine⟨?_,hb⟩;rw[hil];exact Nat.le_trans (Nat.mul_le_mul (show _≤8 by omega) (show(szN e).toNat≤8192 by omega)) (by decide)
end Go.Proofs.YteaocbonofboeaaGreat.CodecP
end
section
namespace Go.Proofs.YteaocbonofboeaaGreat.Pure
open Go.RowKit Go.Proofs.YteaocbonofboeaaGreat.C Go.Proofs.YteaocbonofboeaaGreat.CodecP Go.Proofs.YteaocbonofboeaaGreatW.PrintWords Go.Proofs.YteaocbonofboeaaGreatW.PrintLast Go.Proofs.YteaocbonofboeaaGreatW.PrintMore Go.Proofs.YteaocbonofboeaaGreat.Open
theorem DecodeBack:Qay.Pure:=by
 intro x0 l h0 hG0;have hl:l.length≤4611686018427387903:=by have:=hG0.1;omega
 have hw:Wf l:=wf_rowD (fun r hr=>(hG0.2 r hr).2.1);have hx:=wf_u8D h0;obtain⟨hsm,hG,hz8,hs8⟩:=small_img hx;obtain⟨K,hK⟩:∃K:Nat,K=l.length+20000000:=⟨_,rfl⟩;refine⟨K+1,?_⟩;unfold Qay.f;rw[lives17 _ (by omega),Option.bind_some,if_pos rfl,few_is l 40 2000 _ hl (by omega),Option.bind_some,Qay.j0]
 by_cases hf:few l 40 2000=true
 ·have hn:=few_len hf;have h1:l.length≤1000000:=by omega
  rw[if_neg (by simp[hf]),hsm,Option.bind_some];dsimp only;obtain⟨e,he⟩:∃e,e=12+x0%2:=⟨_,rfl⟩;obtain⟨s,hs⟩:∃s,s=1+x0/2%8:=⟨_,rfl⟩;rw[← he,← hs]at hG ⊢;rw[← he]at hz8;rw[← hs]at hs8
  by_cases hz:(Qux e s l).2.2=0
  ·obtain⟨hg,hc,hil,f1,hA,hst⟩:=Qyr e s l K h1 hw (by omega) hz;obtain⟨img,himg⟩:∃img,img=imgP e s 0 (Qyo (Quu e s l).1 l):=⟨_,rfl⟩;have hI:ImgOf e s l img:=⟨h1,hw,hz,himg⟩;obtain⟨hlen,hbt⟩:=img_small hG hz8 hs8 hI;have hdec:Qar.f K e s img=some (l,0):=by
    rcases decode_is hG (by omega) img hbt (by omega) K (by omega)with⟨L,g1,g2,_⟩ |⟨_,g2⟩
    ·rw[g1,img_one hG g2 hI]
    ·exact absurd hI (g2 l)
   rw[f1,← himg,Option.bind_some];dsimp only;rw[if_pos rfl,Option.bind_some,List.length_nil,if_pos (by omega),Option.bind_some,List.nil_append,hdec,Option.bind_some];dsimp only;rw[if_pos rfl,sameD_is l h1 K (by omega),Option.bind_some,if_pos rfl];unfold Qas.f;rw[hdec,Option.bind_some,Option.bind_some];simp
  ·have hb:=Qxy e s l K h1 hw (by omega) hz;rw[hb,Option.bind_some];dsimp only;rw[if_neg hz];rfl
 ·rw[if_pos (by simp[hf]),lives17 _ (by omega),Option.bind_some]
end Go.Proofs.YteaocbonofboeaaGreat.Pure
end
