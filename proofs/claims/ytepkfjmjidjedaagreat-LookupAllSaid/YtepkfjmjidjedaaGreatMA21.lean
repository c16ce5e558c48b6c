/- Merged texts. -/
import Derived.Test.YtepkfjmjidjedaaGreatMA20
import Derived.Test.YtepkfjmjidjedaaGreatMA18
import Derived.Test.YtepkfjmjidjedaaGreatMA04
import Derived.Test.YtepkfjmjidjedaaGreatMA07
import Derived.Test.YtepkfjmjidjedaaGreatMA00
import Derived.Test.YtepkfjmjidjedaaGreatMA05
import Derived.Test.YtepkfjmjidjedaaGreatMA13
import Derived.Sort.Walk0
set_option linter.unusedVariables false
set_option linter.unusedSimpArgs false
set_option maxHeartbeats 8000000
set_option maxRecDepth 100000
section
namespace Go.Proofs.YtepkfjmjidjedaaGreat.CodecP
open Go.RowKit Go.Proofs.YtepkfjmjidjedaaGreat.C Go.Proofs.YtepkfjmjidjedaaGreatW.PrintWords Go.Proofs.YtepkfjmjidjedaaGreatW.PrintLast Go.Proofs.YtepkfjmjidjedaaGreatW.PrintMore
theorem snocInd{α:Type}{p:List α→Prop}(h0:p [])(h1:∀l x,p l→p (l++[x]))(l:List α):p l:=by
 rw[← l.reverse_reverse]
 induction l.reverse with
 | nil=>exact h0
 | cons x t ih=>rw[List.reverse_cons];exact h1 _ _ ih
def offs(e s n:Int)(l:List Rec):List Int:=(List.range l.length).map (fun i=>((partB e s n (l.take i)).2.1.length:Int))
theorem offs_length(e s n:Int)(l:List Rec):(offs e s n l).length=l.length:=by simp[offs]
theorem offs_snoc(e s n:Int)(l:List Rec)(r:Rec):offs e s n (l++[r])=offs e s n l++[((partB e s n l).2.1.length:Int)]:=by
 unfold offs;rw[List.length_append,List.length_singleton,List.range_succ,List.map_append,List.map_singleton,List.take_left]
 congr 1
 refine List.map_congr_left fun i hi=>?_
 rw[List.mem_range]at hi;rw[List.take_append_of_le_length (by omega)]
theorem part_snoc(e s n:Int)(l:List Rec)(r:Rec):partB e s n (l++[r])=putB e s n (partB e s n l) r:=fillB_snoc e s n l _ r
theorem part_ok(e s n:Int)(l:List Rec):((partB e s n l).2.1.length:Int)≤16777216→okB e s n l.length (partB e s n l)∧(partB e s n l).2.2=Qrb l (offs e s n l):=by
 refine snocInd (p:=fun l=>((partB e s n l).2.1.length:Int)≤16777216→okB e s n l.length (partB e s n l)∧(partB e s n l).2.2=Qrb l (offs e s n l)) (fun _=>⟨Qym e s n 0,rfl⟩) (fun l r ih h=>?_) l;have hl:(partB e s n (l++[r])).2.1=(partB e s n l).2.1++Qvn r:=by rw[part_snoc];rfl
 rw[hl,List.length_append]at h;have hf:0<(Qvn r).length:=by unfold Qvn Qla;simp
 obtain⟨⟨b1,b2,b3,b4,b5⟩,b6⟩:=ih (by omega);have hm:((partB e s n l).2.1.length:Int)%4294967296=((partB e s n l).2.1.length:Int):=by omega
 have h2:(partB e s n (l++[r])).2.2=(partB e s n l).2.2++[⟨Qkt 0 (bytesOf r.f2),((partB e s n l).2.1.length:Int)⟩]:=by
  rw[part_snoc];unfold putB;rw[hm]
 have hr:=Qxz (bytesOf r.f2);refine⟨⟨?_,?_,?_,?_,?_⟩,?_⟩
 ·rw[part_snoc];simp[putB]
 ·rw[h2,List.length_append,List.length_append];simp only[List.length_singleton];omega
 ·intro x hx;rw[h2]at hx;rw[hl,List.length_append]
  rcases List.mem_append.1 hx with hx|hx
  ·have:=b3 x hx;exact⟨this.1,by omega⟩
  ·rcases List.mem_singleton.1 hx with rfl
   exact⟨⟨hr,by dsimp only;omega,by dsimp only;omega⟩,by dsimp only;omega⟩
 ·rw[h2,List.pairwise_append];refine⟨b4,List.pairwise_singleton _ _,?_⟩;intro x hx y hy
  rcases List.mem_singleton.1 hy with rfl
  exact(b3 x hx).2
 ·rw[hl,List.length_append];omega
 ·rw[h2,b6,offs_snoc];unfold Qrb;rw[List.zipWith_append (by rw[offs_length])];rfl
theorem frames_count:∀l:List Rec,l.length≤(l.flatMap Qvn).length
 | []=>Nat.zero_le _
 | r :: l=>by
  have:=frames_count l;have hf:0<(Qvn r).length:=by unfold Qvn Qla;simp
  rw[List.flatMap_cons,List.length_append,List.length_cons];omega
theorem seal_form{b:List Int}(hb:Bytes b):∃z,Qla b=z++[0]∧Free z:=⟨_,rfl,(Qwe _ _ (Nat.le_refl _) (hb.app (Qwk 8 _))).1⟩
theorem seal_chunk{b:List Int}(hb:Bytes b){a x y:List Int}(ha:Free a)(h:a++0 :: x=Qla b++y):a++[0]=Qla b∧x=y:=by
 obtain⟨z,hz,hf⟩:=seal_form hb;rw[hz,List.append_assoc]at h;obtain⟨rfl,rfl⟩:=Qwj ha hf h;exact⟨hz.symm,rfl⟩
theorem seal_not_free{b:List Int}{a y:List Int}(ha:Free a):a≠Qla b++y:=by
 intro h;have h0:(0:Int)∈a:=by rw[h];exact List.mem_append_left _ (Qwm _)
 exact ha 0 h0 rfl
theorem all_ff{R:List Int}:Qsr R=true↔∃m,R=List.replicate m 255:=by
 unfold Qsr;rw[List.all_eq_true]
 constructor
 ·intro h;refine⟨R.length,List.eq_replicate_iff.2 ⟨rfl,fun x hx=>by simpa using h x hx⟩⟩
 ·rintro⟨m,rfl⟩ x hx;rw[List.eq_of_mem_replicate hx];rfl
def ScanEnds(e s n:Int)(l:List Rec)(R:List Int)(res:Option (List Rec × List Int × Nat × Bool)):Prop :=
 (res=some (l,offs e s n l,(partB e s n l).2.1.length,false)∧∃m,R=List.replicate m 255) ∨
 (res=some (l,offs e s n l,(partB e s n l).2.1.length,true)∧l≠[]∧∃m,R=Qnp ((partB e s n l).2.1.length:Int) (Qmu (partB e s n l).2.2)++List.replicate m 255) ∨
 (res=none∧(∀m,R≠List.replicate m 255)∧(l≠[]→∀m,R≠Qnp ((partB e s n l).2.1.length:Int) (Qmu (partB e s n l).2.2)++List.replicate m 255))
theorem scan_spec(e s n:Int)(k:Nat)(t:List Int)(ht:Bytes t)(htl:t.length≤1000000)(hk:t.length+5≤k):∀(f:Nat) (l:List Rec) (R:List Int),R.length<f→(∀r∈l,okR r)→t=(partB e s n l).2.1++R →
  ∃l' R' res,Qtk k t f l (offs e s n l) (partB e s n l).2.1.length=some res∧(∀r∈l',okR r)∧t=(partB e s n l').2.1++R'∧Qwv R'∧ScanEnds e s n l' R' res:=by
 intro f
 induction f with
 | zero=>intro l R h;omega
 | succ f ih =>
  intro l R hf hl hR;have hlen:=congrArg List.length hR;rw[List.length_append]at hlen;have hRb:Bytes R:=fun x hx=>ht x (by rw[hR];exact List.mem_append_right _ hx)
  have hdrop:t.drop (partB e s n l).2.1.length=R:=by
   conv=>lhs;rw[hR]
   rw[List.drop_left]
  obtain⟨⟨b1,b2,b3,b4,b5⟩,b6⟩:=part_ok e s n l (by omega);have hcnt:=frames_count l;have hpf:=congrArg List.length (part_frames e s n l);rw[List.length_append]at hpf;unfold Qtk;rw[hdrop]
  rcases Qwc R with hfr |⟨a,b,rfl,hfa⟩
  ·rw[Qsz hRb hfr,if_pos (by decide)];refine⟨l,R,_,rfl,hl,hR,fun r x hr he=>seal_not_free hfr he,?_⟩
   by_cases hff:Qsr R=true
   ·rw[if_pos hff];exact .inl ⟨rfl,all_ff.1 hff⟩
   ·rw[if_neg hff];exact .inr (.inr ⟨rfl,fun m hm=>hff (all_ff.2 ⟨m,hm⟩),fun _ m hm=>seal_not_free hfr hm⟩)
  ·have hba:Bytes a:=fun x hx=>hRb x (List.mem_append_left _ hx)
   rw[List.length_append,List.length_cons]at hlen hf;rw[Qta hba hfa,if_neg (by omega),Int.toNat_natCast,List.take_left];obtain⟨r1,r2,r3,r4,r5,g1,g2,g3⟩:=Qyb hba hfa (by omega) k (by omega);rw[g1,Option.bind_some];dsimp only
   by_cases h5:r5=0
   ·obtain⟨g4,g5⟩:=g2 h5;have hch:=Qkj g4.1;dsimp only at hch;rw[if_pos h5,if_pos (by omega),← offs_snoc e s n l ⟨r1,r2,r3,r4⟩];have hpp:(partB e s n (l++[⟨r1,r2,r3,r4⟩])).2.1=(partB e s n l).2.1++(a++[0]):=by rw[part_snoc,g5];rfl
    have hpl:(partB e s n l).2.1.length+a.length+1=(partB e s n (l++[⟨r1,r2,r3,r4⟩])).2.1.length:=by
     rw[hpp,List.length_append,List.length_append,List.length_singleton];omega
    rw[hpl];refine ih _ b (by omega) ?_ (by rw[hpp,hR];simp);intro r hr
    rcases List.mem_append.1 hr with hr|hr
    ·exact hl r hr
    ·rcases List.mem_singleton.1 hr with rfl
     exact g4
   ·obtain⟨out,e0,o1,o2,o3⟩:=Qya hba hfa (by omega) k (by omega);rw[if_neg h5,o1,Option.bind_some];dsimp only;rw[if_pos (fun h=>⟨(o2 h).1,by have:=(o2 h).2.1;omega⟩)];have hent:(Qrb l (offs e s n l)).length=l.length:=Qrc l _ (offs_length e s n l);have hne:Qrb l (offs e s n l)≠[]↔l≠[]:=by
     rw[← List.length_pos_iff,← List.length_pos_iff,hent]
    have hfs:=foot_spec o2 o3 (u:=((partB e s n l).2.1.length:Int)) (l:=l) (ps:=offs e s n l) ⟨by omega,by omega⟩ (by rw[← b6];exact Qyq b4) (by rw[← b6];exact b3) (by omega);rw[← b6]at hfs hne;have hdb:t.drop ((partB e s n l).2.1.length+a.length+1)=b:=by
     rw[Nat.add_assoc,← List.drop_drop,hdrop,← List.drop_drop,List.drop_left];rfl
    rw[hdb];have hnr:Qwv (a++0 :: b):=fun r x hr he=>h5 (g3 r hr (seal_chunk (Qwt hr) hfa he).1).1
    have c:∀m,a++0 :: b≠List.replicate m 255:=fun m hm=>by
     have h0:(0:Int)∈List.replicate m (255:Int):=by rw[← hm];simp
     have:=List.eq_of_mem_replicate h0;omega
    refine⟨l,a++0 :: b,_,rfl,hl,hR,hnr,?_⟩
    by_cases hcl:Qso ((partB e s n l).2.1.length:Int) l (offs e s n l) (getF e0 out)=true∧Qsr b=true
    ·rw[if_pos hcl];obtain⟨q1,q2⟩:=hfs.1 hcl.1;obtain⟨m,hm⟩:=all_ff.1 hcl.2;refine .inr (.inl ⟨rfl,hne.1 q1,m,?_⟩);rw[← q2,hm];simp
    ·rw[if_neg hcl];refine .inr (.inr ⟨rfl,c,fun hl0 m hm=>hcl ?_⟩);obtain⟨q3,q4⟩:=seal_chunk (footB_bytes _ _) hfa hm;exact⟨hfs.2 ⟨hne.2 hl0,q3⟩,all_ff.2 ⟨m,q4⟩⟩
theorem seg_head(e s n:Int)(l:List Rec)(b:Bool):∃R,segB e s n l b=Qlf e s n++R:=by
 unfold segB Qyz;rw[part_frames,List.append_assoc,List.append_assoc];exact⟨_,rfl⟩
theorem seg_pad{m:Nat}{a b t:List Int}{N:Nat}(ht:t=a++List.replicate m 255)(hl:t.length=N):t=a++List.replicate (N-a.length) 255:=by
 have:=congrArg List.length ht;rw[List.length_append,List.length_replicate]at this;rw[ht,show N-a.length=m by omega]
theorem parse_spec{e s:Int}(hG:Good e s){n:Int}(h0:0≤n)(h1:n<s)(t:List Int)(ht:Bytes t)(htl:t.length≤1000000)(hsize:(t.length:Int)=szN e)(k:Nat)(hk:t.length+100≤k) :
  (∃l sl,Qca.f k e s n t=some (l,offs e s n l,((partB e s n l).2.1.length:Int),sl,0)∧(∀r∈l,okR r)∧(sl=true→l≠[])∧t=segB e s n l sl∧((partB e s n l).2.1.length:Int)≤1000000) ∨
  (Qca.f k e s n t=some ([],[],0,false,4)∧∀l sl,(∀r∈l,okR r)→(sl=true→l≠[])→t≠segB e s n l sl):=by
 have hph:=Quz hG n h0 h1;have hcs:=Qus hG;have hHb:Bytes (Qlf e s n):=by
  obtain⟨g1,g2,g3,g4⟩:=hG;exact head_bytes ⟨by omega,by omega⟩ ⟨by omega,by omega⟩ ⟨by omega,by omega⟩
 unfold Qca.f;rw[hph,Option.bind_some];dsimp only;rw[if_neg (by decide),hcs,Option.bind_some,if_pos ⟨ht,hHb,by omega⟩,if_neg (by omega)]
 by_cases hhead:t.take (Qlf e s n).length=Qlf e s n
 ·rw[if_neg (by simpa using hhead)];have htR:t=Qlf e s n++t.drop (Qlf e s n).length:=by
   conv=>lhs;rw[← List.take_append_drop (Qlf e s n).length t,hhead]
  obtain⟨l,R,res,s1,s2,s3,s4,s5⟩:=scan_spec e s n k t ht htl (by omega) k [] (t.drop (Qlf e s n).length) qq_31 (fun r h=>by cases h) htR;have a:Qtk k t k [] [] (Qlf e s n).length=some res:=s1;rw[a,Option.bind_some];have htl2:=s3;rw[part_frames,List.append_assoc]at htl2;have hll:((partB e s n l).2.1.length:Int)≤1000000:=by
   have:=congrArg List.length s3;rw[List.length_append]at this;omega
  obtain⟨okb,_⟩:=part_ok e s n l (by omega);have hu:Qnw (partB e s n l)=((partB e s n l).2.1.length:Int):=by have:=okb.1;unfold Qnw;omega
  have hfit:t.length=(szN e).toNat:=by omega
  have hseg0:∀m,R=List.replicate m 255→t=segB e s n l false:=fun m hm=>by
   have:Qyz (partB e s n l) false=(partB e s n l).2.1:=by simp[Qyz]
   unfold segB;rw[this];exact seg_pad (b:=[]) (m:=m) (by rw[← hm];exact s3) hfit
  have hseg1:∀m,R=Qnp ((partB e s n l).2.1.length:Int) (Qmu (partB e s n l).2.2)++List.replicate m 255→t=segB e s n l true:=fun m hm=>by
   have:Qyz (partB e s n l) true=(partB e s n l).2.1++Qnp ((partB e s n l).2.1.length:Int) (Qmu (partB e s n l).2.2):=by unfold Qyz;rw[if_pos rfl,hu]
   unfold segB;rw[this];exact seg_pad (b:=[]) (m:=m) (by rw[List.append_assoc,← hm];exact s3) hfit
  have huniq:∀l2 sl,(∀r∈l2,okR r)→t=segB e s n l2 sl→l2=l:=fun l2 sl hl2 h=>by
   obtain⟨T,hT,hs⟩:=seg_tail e s n l2 sl;rw[hs]at h;rw[htl2]at h;exact((Qww s2 hl2 s4 hT (List.append_cancel_left h)).1).symm
  have hseg0':t=segB e s n l false→∃m,R=List.replicate m 255:=fun h=>by
   have e1:Qyz (partB e s n l) false=(partB e s n l).2.1:=by simp[Qyz]
   unfold segB at h;rw[e1]at h;rw[h]at s3;exact⟨_,(List.append_cancel_left s3).symm⟩
  have hseg1':t=segB e s n l true→∃m,R=Qnp ((partB e s n l).2.1.length:Int) (Qmu (partB e s n l).2.2)++List.replicate m 255:=fun h=>by
   have e1:Qyz (partB e s n l) true=(partB e s n l).2.1++Qnp ((partB e s n l).2.1.length:Int) (Qmu (partB e s n l).2.2):=by unfold Qyz;rw[if_pos rfl,hu]
   unfold segB at h;rw[e1,List.append_assoc]at h;rw[h]at s3;exact⟨_,(List.append_cancel_left s3).symm⟩
  rcases s5 with⟨rfl,m,hm⟩ |⟨rfl,hne,m,hm⟩ |⟨rfl,c,d⟩
  ·exact .inl ⟨l,false,rfl,s2,fun h=>absurd h (by decide),hseg0 m hm,hll⟩
  ·exact .inl ⟨l,true,rfl,s2,fun _=>hne,hseg1 m hm,hll⟩
  ·refine .inr ⟨rfl,fun l2 sl hl2 hz h=>?_⟩;obtain rfl:=huniq l2 sl hl2 h
   cases sl with
   | false =>
    obtain⟨m,hm⟩:=hseg0' h;exact c m hm
   | true =>
    obtain⟨m,hm⟩:=hseg1' h;exact d (hz rfl) m hm
 ·rw[if_pos hhead];refine .inr ⟨rfl,fun l sl _ _ h=>?_⟩;obtain⟨R,hR⟩:=seg_head e s n l sl;apply hhead;rw[h,hR,List.take_left]
abbrev Pt:=List Rec × Bool
def segsB(e s:Int):Int→List Pt→List Int
 | _,[]=>[]
 | n,p :: t=>segB e s n p.1 p.2++segsB e s (n+1) t
def SegOk(e s n:Int)(p:Pt):Prop:=(∀r∈p.1,okR r)∧(p.2=true→p.1≠[])∧(segB e s n p.1 p.2).length=(szN e).toNat
def SegsOk(e s:Int):Int→List Pt→Prop
 | _,[]=>True
 | n,p :: t=>SegOk e s n p∧SegsOk e s (n+1) t
theorem segs_len{e s:Int}:∀(ps:List Pt) (n:Int),SegsOk e s n ps→(segsB e s n ps).length=ps.length*(szN e).toNat
 | [],n,_=>by simp[segsB]
 | p :: t,n,h=>by
  rw[segsB,List.length_append,h.1.2.2,segs_len t _ h.2,List.length_cons,Nat.succ_mul];omega
theorem seg_flag{e s n:Int}{g:List Rec}(h:segB e s n g true=segB e s n g false):False:=by
 have e0:Qyz (partB e s n g) false=(partB e s n g).2.1:=by simp[Qyz]
 unfold segB at h;rw[e0]at h;unfold Qyz at h;rw[if_pos rfl,List.append_assoc]at h;have h1:=List.append_cancel_left h;have h0:(0:Int)∈List.replicate ((szN e).toNat-(partB e s n g).2.1.length) (255:Int):=by rw[← h1];exact List.mem_append_left _ (Qwm _)
 have:=List.eq_of_mem_replicate h0;omega
theorem seg_uniq{e s n:Int}{p q:Pt}(hp:SegOk e s n p)(hq:SegOk e s n q)(h:segB e s n p.1 p.2=segB e s n q.1 q.2):p=q:=by
 obtain⟨g,b⟩:=p;obtain⟨g',b'⟩:=q;have h1:g=g':=seg_inj hp.1 hq.1 h;subst h1
 cases b<;>cases b'
 ·rfl
 ·exact(seg_flag h.symm).elim
 ·exact(seg_flag h).elim
 ·rfl
theorem imgP_consV(e s:Int)(n:Int)(g:List Rec)(t:List (List Rec)):∃b,imgP e s n (g :: t)=segB e s n g b++imgP e s (n+1) t:=by
 cases t with
 | nil=>exact⟨false,by simp[imgP]⟩
 | cons h t=>exact⟨true,rfl⟩
theorem img_segs{e s:Int}(hG:Good e s):∀(ps:List (List Rec)) (n:Int),AllG e s n ps→(∀g∈ps,∀r∈g,okR r)→∃qs:List Pt,SegsOk e s n qs∧segsB e s n qs=imgP e s n ps∧qs.map (fun p=>p.1)=ps
 | [],n,_,_=>⟨[],trivial,rfl,rfl⟩
 | g :: t,n,h,hr=>by
  obtain⟨b,hb⟩:=imgP_consV e s n g t;obtain⟨qs,h1,h2,h3⟩:=img_segs hG t (n+1) h.2 (fun x hx=>hr x (List.mem_cons_of_mem _ hx));exact⟨(g,b) :: qs,⟨⟨hr g (List.mem_cons_self ..),fun _=>h.1.2.2.2.1,seg_len hG h.1 b⟩,h1⟩,by rw[segsB,h2,hb],by rw[List.map_cons,h3]⟩
def cntE(e s:Int)(N:Nat):Int:=if(N:Int) > szN e*s then 7 else if N%(szN e).toNat=0 then 0 else 4
theorem count_spec{e s:Int}(hG:Good e s)(N:Nat)(hN:N≤1000000000000):Qap.f e s (IntKind.u64.wrap (N:Int))=some (if cntE e s N=0 then((N/(szN e).toNat:Nat):Int)else 0,cntE e s N):=by
 have hz:=Qur hG.1 hG.2.1;obtain⟨g1,g2,g3,g4⟩:=hG;have hm0:0≤szN e*s:=Int.mul_nonneg (by omega) (by omega);have hm1:szN e*s≤16777216*65536:=Int.mul_le_mul hz.2 g4 (by omega) (by omega);obtain⟨z,hzz⟩:∃z:Nat,szN e=(z:Int):=⟨(szN e).toNat,by omega⟩;unfold Qap.f cntE;rw[Qup ⟨g1,g2,g3,g4⟩,Option.bind_some,if_pos rfl,Qus ⟨g1,g2,g3,g4⟩,Option.bind_some,IntWalk.u64_in (szN e) (by omega),IntWalk.u64_in s (by omega),IntWalk.u64_in (szN e*s) (by omega),IntWalk.u64_in (N:Int) (by omega)]
 by_cases h1:(N:Int) > szN e*s
 ·rw[if_pos h1,if_pos h1,if_neg (by decide)]
 ·rw[if_neg h1,if_neg h1,if_neg (by omega)];have ht:Int.tmod (N:Int) (szN e)=((N%(szN e).toNat:Nat):Int):=by
   rw[Int.tmod_eq_emod_of_nonneg (by omega),hzz,Int.toNat_natCast]
   norm_cast
  have hd:Int.tdiv (N:Int) (szN e)=((N/(szN e).toNat:Nat):Int):=by
   rw[Int.tdiv_eq_ediv_of_nonneg (by omega),hzz,Int.toNat_natCast]
   norm_cast
  have hdl:N/(szN e).toNat≤65536:=by
   have a1:N≤65536*(szN e).toNat:=by
    have:szN e*s≤szN e*65536:=Int.mul_le_mul_of_nonneg_left g4 (by omega);omega
   have:=Nat.div_le_div_right (c:=(szN e).toNat) a1;rw[Nat.mul_div_cancel _ (by omega)]at this;exact this
  rw[ht,hd];obtain⟨q,hq⟩:∃q,q=N/(szN e).toNat:=⟨_,rfl⟩;obtain⟨y,hy⟩:∃y,y=N%(szN e).toNat:=⟨_,rfl⟩;rw[← hq]at hdl ⊢;rw[← hy];clear ht hd hq hy
  by_cases h2:y=0
  ·rw[if_pos (by omega),if_pos h2,if_pos rfl,IntWalk.u64_in _ (by omega),show((q:Nat):Int)%4294967296=((q:Nat):Int)by omega]
  ·rw[if_neg (by omega),if_neg h2,if_neg (by decide)]
theorem w64V(x:Nat)(h:x<4611686018427387904):wrap64 (x:Int)=(x:Int):=by unfold wrap64;omega
def ImgOf(e s:Int)(L:List Rec)(b:List Int):Prop:=L.length≤1000000∧Wf L∧(Qvv e s L).2.2=0∧b=imgP e s 0 (partsOf (Qvs e s L).1 L)
theorem AllG.lenV{e s:Int}:∀ {ps:List (List Rec)} {n:Int},0≤n→n≤s→AllG e s n ps→(ps.length:Int)+n≤s
 | [],n,_,h,_=>by simpa using h
 | g :: t,n,h0,_,h=>by
  have:=AllG.lenV (ps:=t) (n:=n+1) (by omega) (by have:=h.1.2.1;omega) h.2;rw[List.length_cons];omega
theorem img_parts{e s:Int}{L:List Rec}{b:List Int}(h:ImgOf e s L b):AllG e s 0 (partsOf (Qvs e s L).1 L)∧(∀g∈partsOf (Qvs e s L).1 L,∀r∈g,okR r):=by
 obtain⟨h1,h2,h3,h4⟩:=h;obtain⟨hg,hc,hil,f1,hA,hst⟩:=encode_img e s L (2*L.length+10) h1 h2 (by omega) h3;refine⟨hA,fun g hg2 r hr2=>?_⟩;have hm:r∈L:=by
  rw[← partsOf_flat (Qvs e s L).1 L];exact List.mem_flatten.2 ⟨g,hg2,hr2⟩
 exact⟨Qvh hc r hm,h2 r hm⟩
theorem wf_rowD{l:List Rec}(h:∀x∈l,(Lit.int .u64 x.f1).wf=true):Wf l:=by
 intro r hr;have h1:=h r hr;simp only[Lit.wf,IntKind.min,IntKind.max,IntKind.signed,IntKind.bits,Bool.and_eq_true,decide_eq_true_eq]at h1;simp at h1;omega
theorem wf_u8D{x:Int}(h1:(Lit.int .u8 x).wf=true):0≤x∧x<256:=by
 simp only[Lit.wf,IntKind.min,IntKind.max,IntKind.signed,IntKind.bits,Bool.and_eq_true,decide_eq_true_eq]at h1;simp at h1;omega
theorem small_img{x0:Int}(hx:0≤x0∧x0<256):Qat.f x0=some (12+x0%2,1+x0/2%8)∧Good (12+x0%2) (1+x0/2%8)∧szN (12+x0%2)≤8192∧1+x0/2%8≤8:=by
 refine⟨by unfold Qat.f;rw[if_pos hx.1,if_pos hx.2],⟨by omega,by omega,by omega,by omega⟩,?_,by omega⟩;have:12+x0%2=12∨12+x0%2=13:=by omega
 rcases this with h|h<;>rw[h]<;>decide
theorem img_small{e s:Int}(hG:Good e s)(hz:szN e≤8192)(hs:s≤8){L:List Rec}{b:List Int}(h:ImgOf e s L b):b.length≤65536∧Bytes b:=by
 obtain⟨hA,hr⟩:=img_parts h;have hpl:=AllG.lenV (Int.le_refl 0) (by have:=hG.2.2.1;omega) hA;have hil:=img_len hG _ 0 hA;have hb:=img_bytes hG _ 0 hA hr;have hsz:=Qur hG.1 hG.2.1;rw[← h.2.2.2]at hil hb;refine⟨?_,hb⟩;rw[hil];exact Nat.le_trans (Nat.mul_le_mul (show _≤8 by omega) (show(szN e).toNat≤8192 by omega)) (by decide)
end Go.Proofs.YtepkfjmjidjedaaGreat.CodecP
end
section
namespace Go.Proofs.YtepkfjmjidjedaaGreat.Plain
open Go.RowKit Go.Proofs.YtepkfjmjidjedaaGreatW.PrintWords
theorem Ev.pos{α:Type}{c:Prop}[Decidable c]{A B:Nat→Option α}{r:α}(h:c)(e:Ev A r):Ev (fun k=>if c then A k else B k) r:=by
 simp only[if_pos h];exact e
theorem Ev.neg{α:Type}{c:Prop}[Decidable c]{A B:Nat→Option α}{r:α}(h:¬c)(e:Ev B r):Ev (fun k=>if c then A k else B k) r:=by
 simp only[if_neg h];exact e
theorem Ev.ite{α:Type}{c:Prop}[Decidable c]{A B:Nat→Option α}{r:α}(h:c→Ev A r)(h':¬c→Ev B r):Ev (fun k=>if c then A k else B k) r:=by
 by_cases e:c
 ·exact Ev.pos e (h e)
 ·exact Ev.neg e (h' e)
theorem Ev.bindc{α β:Type}{o:Option α}{a:α}{f:Nat→α→Option β}{r:β}(h:o=some a)(e:Ev (fun k=>f k a) r):Ev (fun k=>o.bind (f k)) r:=by
 subst h
 exact e
theorem Ev.some{α:Type}(r:α):Ev (fun _=>Option.some r) r:=Ev.now r
def run{α σ ρ:Type}(step:σ→α→ρ ⊕ σ)(fin:σ→ρ):List α→σ→ρ
 | [],s=>fin s
 | x :: t,s=>match step s x with
  | .inl r=>r
  | .inr s'=>run step fin t s'
theorem run_cons_l{α σ ρ:Type}{step:σ→α→ρ ⊕ σ}{fin:σ→ρ}{x:α}{t:List α}{s:σ}{r:ρ}(h:step s x=.inl r):run step fin (x :: t) s=r:=by
 simp[run,h]
theorem run_cons_r{α σ ρ:Type}{step:σ→α→ρ ⊕ σ}{fin:σ→ρ}{x:α}{t:List α}{s s':σ}(h:step s x=.inr s'):run step fin (x :: t) s=run step fin t s':=by
 simp[run,h]
theorem idx_loop{α σ ρ:Type}(xs:List α)(g:Nat→σ→Int→Option ρ)(step:σ→α→ρ ⊕ σ)(fin:σ→ρ)(Inv:Nat→σ→Prop)
  (hend:∀s,Inv xs.length s→Ev (fun k=>g k s (xs.length:Int)) (fin s))
  (hstep:∀(i:Nat) (s:σ) (h:i<xs.length),Inv i s→(∀r,step s xs[i]=.inl r→Ev (fun k=>g k s (i:Int)) r) ∧
   (∀s',step s xs[i]=.inr s'→Inv (i+1) s'∧∀r,Ev (fun k=>g k s' ((i:Int)+1)) r→Ev (fun k=>g k s (i:Int)) r)) :
  ∀(d i:Nat) (s:σ),i+d=xs.length→Inv i s→Ev (fun k=>g k s (i:Int)) (run step fin (xs.drop i) s):=by
 intro d
 induction d with
 | zero =>
  intro i s hd hi
  obtain rfl:i=xs.length:=by omega
  rw[List.drop_length]
  exact hend s hi
 | succ d ih =>
  intro i s hd hi
  have hlt:i<xs.length:=by omega
  rw[List.drop_eq_getElem_cons hlt]
  obtain⟨h1,h2⟩:=hstep i s hlt hi
  cases hs:step s xs[i]with
  | inl r=>rw[run_cons_l hs];exact h1 r hs
  | inr s' =>
   rw[run_cons_r hs]
   obtain⟨h3,h4⟩:=h2 s' hs
   refine h4 _ ?_
   have:=ih (i+1) s' (by omega) h3
   rw[show((i+1:Nat):Int)=(i:Int)+1 by omega]at this
   exact this
theorem idx_loop0{α σ ρ:Type}(xs:List α)(g:Nat→σ→Int→Option ρ)(step:σ→α→ρ ⊕ σ)(fin:σ→ρ)(Inv:Nat→σ→Prop)
  (hend:∀s,Inv xs.length s→Ev (fun k=>g k s (xs.length:Int)) (fin s))
  (hstep:∀(i:Nat) (s:σ) (h:i<xs.length),Inv i s→(∀r,step s xs[i]=.inl r→Ev (fun k=>g k s (i:Int)) r) ∧
   (∀s',step s xs[i]=.inr s'→Inv (i+1) s'∧∀r,Ev (fun k=>g k s' ((i:Int)+1)) r→Ev (fun k=>g k s (i:Int)) r))
  (s:σ) (h0:Inv 0 s):Ev (fun k=>g k s 0) (run step fin xs s):=by
 have:=idx_loop xs g step fin Inv hend hstep xs.length 0 s (by omega) h0
 rwa [List.drop_zero]at this
theorem wrap_nat{i n:Nat}(h:i<n)(hn:n≤9223372036854775807):wrap64 ((i:Int)+1)=(i:Int)+1:=by
 unfold wrap64
 omega
theorem rise_ext{l l':List (List UInt8)}(h:l.Pairwise (· < ·))(h':l'.Pairwise (· < ·))(hm:∀x,x∈l↔x∈l'):l=l':=by
 have n:∀ {m:List (List UInt8)},m.Pairwise (· < ·)→m.Nodup:=fun h=>h.imp (fun {a b} hab e=>by subst e;exact List.lt_irrefl _ hab)
 exact List.Perm.eq_of_pairwise (le:=(· < ·)) (fun a b _ _ h1 h2=>absurd h2 (List.lt_asymm h1)) h h' ((List.perm_ext_iff_of_nodup (n h) (n h')).2 hm)
end Go.Proofs.YtepkfjmjidjedaaGreat.Plain
end
section
namespace Go.Proofs.YtepkfjmjidjedaaGreat.FoldP
open Go.RowKit Go.Proofs.YtepkfjmjidjedaaGreat.C Go.Proofs.YtepkfjmjidjedaaGreat.Plain Go.Proofs.YtepkfjmjidjedaaGreatW.PrintWords Go.Proofs.YtepkfjmjidjedaaGreatW.PrintLast Go.Proofs.YtepkfjmjidjedaaGreatW.PrintMore Go.Maps Go.Sort
abbrev Rec:=S36
abbrev K(r:Rec):List UInt8:=r.f2.toList
theorem rd_nat(xs:List Rec)(i:Nat)(h:i<xs.length):Qij xs (i:Int)=xs[i]:=by
 simp[Qij,List.getElem?_eq_getElem h]
theorem rec_eta(r:Rec):(⟨r.f0,r.f1,r.f2,r.f3⟩:Rec)=r:=rfl
theorem lastRec_cons(r:Rec)(l:List Rec)(key:ByteArray):Qpb (r :: l) key=match Qpb l key with|some x=>some x|none=>if(K r == key.toList)=true then some r else none:=by
 unfold Qpb;rw[List.reverse_cons,List.find?_append]
 cases h:l.reverse.find? (fun r=>r.f2.toList == key.toList)with
 | some x=>simp
 | none=>simp only[Option.none_or,List.find?_cons,List.find?_nil];cases r.f2.toList == key.toList<;>simp
theorem later_ev(l:List Rec)(i:Nat)(hi:i<l.length)(hl:l.length≤9223372036854775806):Ev (fun k=>Qba.f k l (i:Int)) ((l.drop (i+1)).any fun r=>decide (K r=K l[i])):=by
 unfold Qba.f;have hw:wrap64 ((i:Int)+1)=(i:Int)+1:=wrap_nat hi (by omega);rw[hw];refine Ev.pos (by omega) (Ev.pos (by omega) (Ev.bindc rfl ?_));rw[show((i:Int)+1).toNat=i+1 by omega];have:=idx_loop0 (l.drop (i+1)) (fun k (_:Unit) j=>Qba.l0 k l (i:Int) (l.drop (i+1)) ((l.drop (i+1)).length:Int) j) (fun s x=>if K x=K l[i]then .inl true else .inr s) (fun _=>false) (fun _ _=>True) (by
   intro s _;refine Ev.step (fun k=>by rw[Qba.l0]) ?_;exact Ev.neg (by omega) (Ev.some _)) (by
   intro j s h _;have e:=rd_nat (l.drop (i+1)) j h;have e2:=rd_nat l i hi
   constructor
   ·intro r hr;refine Ev.step (fun k=>by rw[Qba.l0]) ?_;refine Ev.pos (by omega) (Ev.pos (by omega) (Ev.pos (by omega) (Ev.pos (by omega) (Ev.pos (by omega) ?_))));rw[e,e2];refine Ev.ite (fun c=>?_) (fun c=>?_)
    ·rw[if_pos c]at hr;cases hr;exact Ev.some _
    ·rw[if_neg c]at hr;cases hr
   ·intro s' hr;refine⟨trivial,fun r hk=>?_⟩;refine Ev.step (fun k=>by rw[Qba.l0]) ?_;refine Ev.pos (by omega) (Ev.pos (by omega) (Ev.pos (by omega) (Ev.pos (by omega) (Ev.pos (by omega) ?_))));rw[e,e2,wrap_nat h qq_27];refine Ev.ite (fun c=>?_) (fun c=>?_)
    ·rw[if_pos c]at hr;cases hr
    ·exact hk) () trivial
 have e:∀(m:List Rec),run (σ:=Unit) (ρ:=Bool) (fun s x=>if K x=K l[i]then .inl true else .inr s) (fun _=>false) m ()=m.any fun r=>decide (K r=K l[i]):=by
  intro m
  induction m with
  | nil=>rfl
  | cons x t ih =>
   by_cases c:K x=K l[i]
   ·simp[run,c]
   ·simp only[run,if_neg c,ih,List.any_cons,decide_eq_false c,Bool.false_or]
 rw[e]at this;exact this
def comp:List Rec→List Rec
 | []=>[]
 | r :: t=>if(t.any fun x=>decide (K x=K r))=true then comp t else r :: comp t
theorem refCompact_ev(l:List Rec)(hl:l.length<2932031007402):Ev (fun k=>Qaz.f k l) (comp l):=by
 have key:∀(d i:Nat) (acc:List Rec),i+d=l.length→acc.length≤i→Ev (fun k=>Qaz.l0 k l acc l (l.length:Int) (i:Int)) (acc++comp (l.drop i)):=by
  intro d
  induction d with
  | zero =>
   intro i acc hd ha;obtain rfl:i=l.length:=by omega
   rw[List.drop_length];simp only[comp,List.append_nil];refine Ev.step (fun k=>by rw[Qaz.l0]) ?_;exact Ev.neg (by omega) (Ev.some _)
  | succ d ih =>
   intro i acc hd ha;have h:i<l.length:=by omega
   have e:=rd_nat l i h;rw[List.drop_eq_getElem_cons h];refine Ev.step (fun k=>by rw[Qaz.l0]) ?_;refine Ev.pos (by omega) (Ev.pos (by omega) (Ev.pos (by omega) (Ev.bind (later_ev l i h (by omega)) ?_)));rw[e,wrap_nat h (by omega),show((i:Int)+1)=((i+1:Nat):Int)by omega];unfold comp;refine Ev.ite (fun c=>?_) (fun c=>Ev.pos (by omega) ?_)
   ·rw[if_pos c];exact ih (i+1) acc (by omega) (by omega)
   ·rw[if_neg c];have:=ih (i+1) (acc++[l[i]]) (by omega) qq_27;rw[List.append_assoc]at this;exact this
 have:=key l.length 0 [] (by omega) (by simp);rw[List.drop_zero,List.nil_append]at this;exact this
theorem comp_length(l:List Rec):(comp l).length≤l.length:=by
 induction l with
 | nil=>simp[comp]
 | cons r t ih=>unfold comp;split<;>simp<;>omega
theorem comp_keys(l:List Rec)(x:List UInt8):x∈(comp l).map K↔x∈l.map K:=by
 induction l with
 | nil=>simp[comp]
 | cons r t ih =>
  unfold comp;split
  ·rename_i c;rw[ih,List.map_cons,List.mem_cons]
   constructor
   ·exact .inr
   ·rintro(rfl|h)
    ·obtain⟨y,hy,he⟩:=List.any_eq_true.1 c;exact List.mem_map.2 ⟨y,hy,of_decide_eq_true he⟩
    ·exact h
  ·rw[List.map_cons,List.mem_cons,ih,List.map_cons,List.mem_cons]
theorem comp_nodup(l:List Rec):(comp l).Pairwise (fun a b=>K a≠K b):=by
 induction l with
 | nil=>simp[comp]
 | cons r t ih =>
  unfold comp;split
  ·exact ih
  ·rename_i c;refine List.pairwise_cons.2 ⟨fun y hy e=>c ?_,ih⟩;have:K y∈t.map K:=(comp_keys t (K y)).1 (List.mem_map.2 ⟨y,hy,rfl⟩);obtain⟨z,hz,hze⟩:=List.mem_map.1 this;exact List.any_eq_true.2 ⟨z,hz,by simp only[decide_eq_true_eq];rw[hze,e]⟩
def insK(r:Rec):List Rec→List Rec
 | []=>[r]
 | x :: t=>if K r<K x then r :: x :: t else x :: insK r t
theorem insK_length(r:Rec)(l:List Rec):(insK r l).length=l.length+1:=by
 induction l with
 | nil=>rfl
 | cons x t ih=>unfold insK;split<;>simp[ih]
theorem insK_mem(r:Rec)(l:List Rec)(y:Rec):y∈insK r l↔y=r∨y∈l:=by
 induction l with
 | nil=>simp[insK]
 | cons x t ih =>
  unfold insK;split
  ·simp
  ·simp only[List.mem_cons,ih]
   constructor
   ·rintro(h|h|h)<;>simp[h]
   ·rintro(h|h|h)<;>simp[h]
theorem insK_rises(r:Rec)(l:List Rec)(hl:l.Pairwise (fun a b=>K a<K b))(hr:∀y∈l,K y≠K r):(insK r l).Pairwise (fun a b=>K a<K b):=by
 induction l with
 | nil=>simp[insK]
 | cons x t ih =>
  obtain⟨h1,h2⟩:=List.pairwise_cons.1 hl;unfold insK;split
  ·rename_i c;refine List.pairwise_cons.2 ⟨fun y hy=>?_,hl⟩
   rcases List.mem_cons.1 hy with rfl|hy
   ·exact c
   ·exact List.lt_trans c (h1 y hy)
  ·rename_i c;refine List.pairwise_cons.2 ⟨fun y hy=>?_,ih h2 (fun y hy=>hr y (List.mem_cons_of_mem _ hy))⟩
   rcases(insK_mem r t y).1 hy with rfl|hy
   ·exact Std.lt_of_le_of_ne (List.not_lt.1 c) (hr x (by simp))
   ·exact h1 y hy
def byK(l:List Rec):List Rec:=(comp l).foldl (fun out r=>insK r out) []
theorem ins_ev(r:Rec)(cs:List Rec)(i:Nat)(out:List Rec)(ho:out.length<2932031007400)(q:List Rec)(hk:Ev (fun k=>Qay.l0 k (insK r out) cs (cs.length:Int) (wrap64 ((i:Int)+1))) q) :
  Ev (fun k=>Qay.l1 k [] false cs (cs.length:Int) (i:Int) out (out.length:Int) 0 r.f0 r.f1 r.f2 r.f3) q:=by
 have key:∀(d j:Nat) (next:List Rec) (done:Bool),j+d=out.length→next.length≤j+1→(done=false→next.length≤j) →
   (next++(if done=true then out.drop j else insK r (out.drop j))=insK r out)→Ev (fun k=>Qay.l1 k next done cs (cs.length:Int) (i:Int) out (out.length:Int) (j:Int) r.f0 r.f1 r.f2 r.f3) q:=by
  intro d
  induction d with
  | zero =>
   intro j next done hd hn hn' he;obtain rfl:j=out.length:=by omega
   rw[List.drop_length]at he;refine Ev.step (fun k=>by rw[Qay.l1]) ?_;refine Ev.neg (by omega) ?_;refine Ev.ite (fun c=>?_) (fun c=>Ev.pos (by omega) ?_)
   ·rw[if_pos c,List.append_nil]at he;rw[he];exact hk
   ·rw[if_neg c]at he;rw[rec_eta,show next++[r]=insK r out from he];exact hk
  | succ d ih =>
   intro j next done hd hn hn' he;have h:j<out.length:=by omega
   have e:=rd_nat out j h;have hw:wrap64 ((j:Int)+1)=((j+1:Nat):Int):=by rw[wrap_nat h (by omega)];omega
   rw[List.drop_eq_getElem_cons h]at he;refine Ev.step (fun k=>by rw[Qay.l1]) ?_;refine Ev.pos (by omega) (Ev.pos (by omega) (Ev.pos (by omega) ?_));rw[e,hw,rec_eta,rec_eta];refine Ev.ite (fun c=>Ev.pos (by omega) ?_) (fun c=>Ev.ite (fun c'=>Ev.pos (by omega) (Ev.bindc rfl (Ev.pos qq_27 ?_))) (fun c'=>Ev.pos (by omega) ?_))
   ·refine ih (j+1) _ _ (by omega) qq_27 (fun f=>by rw[c]at f;cases f) ?_;rw[if_pos c]at he ⊢;rw[List.append_assoc];exact he
   ·have c2:done=false:=by simpa using c
    have a:=hn' c2;rw[bytesLess_eq,decide_eq_true_eq]at c';refine ih (j+1) _ _ (by omega) qq_27 (fun f=>by cases f) ?_;rw[if_neg c]at he;simp only[insK,if_pos c']at he;rw[if_pos rfl,List.append_assoc,List.append_assoc];exact he
   ·have c2:done=false:=by simpa using c
    have a:=hn' c2;rw[bytesLess_eq,decide_eq_true_eq]at c';refine ih (j+1) _ _ (by omega) qq_27 (fun f=>by simp;omega) ?_;rw[if_neg c]at he ⊢;simp only[insK,if_neg c']at he;rw[List.append_assoc];exact he
 refine key out.length 0 [] false (by omega) (by simp) (by simp) ?_;simp
theorem byKey_ev(l:List Rec)(hl:l.length<2932031007400):Ev (fun k=>Qay.f k l) (byK l):=by
 refine Ev.bind (refCompact_ev l (by omega)) ?_;have hc:=comp_length l;unfold byK;generalize comp l=cs at hc;have key:∀(d i:Nat) (out:List Rec),i+d=cs.length→out.length=i→Ev (fun k=>Qay.l0 k out cs (cs.length:Int) (i:Int)) ((cs.drop i).foldl (fun out r=>insK r out) out):=by
  intro d
  induction d with
  | zero =>
   intro i out hd ho;obtain rfl:i=cs.length:=by omega
   rw[List.drop_length];refine Ev.step (fun k=>by rw[Qay.l0]) ?_;exact Ev.neg (by omega) (Ev.some _)
  | succ d ih =>
   intro i out hd ho;have h:i<cs.length:=by omega
   have e:=rd_nat cs i h;rw[List.drop_eq_getElem_cons h,List.foldl_cons];refine Ev.step (fun k=>by rw[Qay.l0]) ?_;refine Ev.pos (by omega) (Ev.pos (by omega) (Ev.pos (by omega) ?_));rw[e];refine ins_ev cs[i] cs i out (by omega) _ ?_;have:=ih (i+1) (insK cs[i] out) (by omega) (by rw[insK_length,ho]);rw[wrap_nat h (by omega),show((i:Int)+1)=((i+1:Nat):Int)by omega];exact this
 have:=key cs.length 0 [] (by omega) rfl;rw[List.drop_zero]at this;exact this
theorem byK_keys(l:List Rec):((byK l).map K).Pairwise (· < ·)∧∀x,x∈(byK l).map K↔x∈l.map K:=by
 have key:∀(cs out:List Rec),cs.Pairwise (fun a b=>K a≠K b)→out.Pairwise (fun a b=>K a<K b)→(∀y∈out,∀x∈cs,K y≠K x) →
   (cs.foldl (fun out r=>insK r out) out).Pairwise (fun a b=>K a<K b)∧∀y,y∈cs.foldl (fun out r=>insK r out) out↔y∈cs∨y∈out:=by
  intro cs
  induction cs with
  | nil=>intro out _ ho _;exact⟨ho,fun y=>by simp⟩
  | cons r t ih =>
   intro out hc ho hd;obtain⟨h1,h2⟩:=List.pairwise_cons.1 hc;obtain⟨a,b⟩:=ih (insK r out) h2 (insK_rises r out ho (fun y hy=>hd y hy r (by simp))) (fun y hy x hx=>by
    rcases(insK_mem r out y).1 hy with rfl|hy
    ·exact h1 x hx
    ·exact hd y hy x (List.mem_cons_of_mem _ hx))
   refine⟨a,fun y=>?_⟩;rw[List.foldl_cons,b,insK_mem,List.mem_cons]
   constructor
   ·rintro(h|h|h)<;>simp[h]
   ·rintro((h|h)|h)<;>simp[h]
 obtain⟨a,b⟩:=key (comp l) [] (comp_nodup l) List.Pairwise.nil (by simp);refine⟨List.pairwise_map.2 a,fun x=>?_⟩;rw[← comp_keys l x];simp only[List.mem_map]
 constructor
 ·rintro⟨y,hy,e⟩;exact⟨y,by simpa using (b y).1 hy,e⟩
 ·rintro⟨y,hy,e⟩;exact⟨y,(b y).2 (.inl hy),e⟩
theorem lastsD_tidy(l:List Rec):∀k,Tidy (Qoj (H:=Unit) l k)
 | 0=>tidy_empty
 | k+1=>Tidy.put (lastsD_tidy l k) (Qok _) _
theorem lastsD_mem(l:List Rec):∀k,∃es,Qoj (H:=Unit) l k=.map es∧∀q:Lit,q∈es.map (·.1)↔∃i,i<k∧q=keyL (Qij l (i:Nat)).f2
 | 0=>⟨[],rfl,by simp⟩
 | k + 1=>by
  obtain⟨es,he,hm⟩:=lastsD_mem l k;refine⟨DataW.insert (keyL (Qij l k).f2,i64L k) (es.filter fun p=>!p.1.sameKey (keyL (Qij l k).f2)),?_,fun q=>?_⟩
  ·unfold Qoj;rw[he];rfl
  ·simp only[List.mem_map,Go.ChangeMaps.mem_insert_iff,List.mem_filter]
   constructor
   ·rintro⟨p,rfl |⟨hp,_⟩,rfl⟩
    ·exact⟨k,by omega,rfl⟩
    ·obtain⟨i,hi,e⟩:=(hm p.1).1 (List.mem_map.2 ⟨p,hp,rfl⟩);exact⟨i,by omega,e⟩
   ·rintro⟨i,hi,rfl⟩
    by_cases e:keyL (Qij l (i:Nat)).f2=keyL (Qij l (k:Nat)).f2
    ·exact⟨_,.inl rfl,e.symm⟩
    ·have:i<k:=by
      rcases Nat.lt_succ_iff_lt_or_eq.1 hi with h|rfl
      ·exact h
      ·exact absurd rfl e
     obtain⟨p,hp,hpe⟩:=List.mem_map.1 ((hm _).2 ⟨i,this,rfl⟩);refine⟨p,.inr ⟨hp,?_⟩,hpe⟩;rw[hpe,sameKey_ne e];rfl
theorem keysL_is(l:List Rec):(Qoq l).map (·.toList)=(byK l).map K:=by
 obtain⟨hr,hm⟩:=byK_keys l;obtain⟨es,he,hes⟩:=lastsD_mem l l.length;obtain⟨es',he',hp⟩:=lastsD_tidy l l.length;rw[he]at he'
 injection he' with he'
 subst he';have e0:(Qoq l).map (·.toList)=(strKeys (Qoj (H:=Unit) l l.length)).mergeSort leB:=by
  unfold Qoq;rw[List.map_map];have:(fun x:ByteArray=>x.toList) ∘ (fun b:List UInt8=>(⟨b.toArray⟩:ByteArray))=id:=by
   funext b
   simp[ByteArray.toList_eq]
  rw[this,List.map_id]
 have hstr:∀x:List UInt8,x∈strKeys (Qoj (H:=Unit) l l.length)↔x∈l.map K:=by
  intro x;rw[he];simp only[strKeys,List.mem_map]
  constructor
  ·rintro⟨p,hp,rfl⟩;obtain⟨i,hi,e⟩:=(hes p.1).1 (List.mem_map.2 ⟨p,hp,rfl⟩);rw[rd_nat l i hi]at e;exact⟨l[i],List.getElem_mem hi,by rw[e];simp[strOf,K,ByteArray.toList_eq]⟩
  ·rintro⟨r,hr,rfl⟩;obtain⟨i,hi,e⟩:=List.getElem_of_mem hr;obtain⟨p,hp,hpe⟩:=List.mem_map.1 ((hes (keyL r.f2)).2 ⟨i,hi,by rw[rd_nat l i hi,e]⟩);exact⟨p,hp,by rw[hpe];simp[strOf,K,ByteArray.toList_eq]⟩
 have hnd:(strKeys (Qoj (H:=Unit) l l.length)).Nodup:=by
  rw[he];simp only[strKeys];refine List.pairwise_map.2 (List.Pairwise.imp_of_mem ?_ hp);intro p q hp' hq' hne e;obtain⟨i,hi,e1⟩:=(hes p.1).1 (List.mem_map.2 ⟨p,hp',rfl⟩);obtain⟨j,hj,e2⟩:=(hes q.1).1 (List.mem_map.2 ⟨q,hq',rfl⟩);rw[e1,e2]at e;apply hne;rw[e1,e2];simp only[strOf]at e;rw[keyL,keyL,e]
 have tr:∀a b c:List UInt8,leB a b=true→leB b c=true→leB a c=true:=fun a b c h1 h2=>by simp only[leB,decide_eq_true_eq]at *;exact List.le_trans h1 h2
 have tot:∀a b:List UInt8,(leB a b || leB b a)=true:=fun a b=>by simp only[leB,Bool.or_eq_true,decide_eq_true_eq];exact List.le_total a b
 rw[e0];refine rise_ext ?_ hr (fun x=>by rw[List.mem_mergeSort,hstr,hm]);have h1:=List.pairwise_mergeSort tr tot (strKeys (Qoj (H:=Unit) l l.length));have h2:((strKeys (Qoj (H:=Unit) l l.length)).mergeSort leB).Nodup:=(List.mergeSort_perm _ leB).nodup_iff.2 hnd;exact List.Pairwise.imp₂ (fun a b h n=>Std.lt_of_le_of_ne (by simpa [leB]using h) n) h1 h2
theorem last_none{l:List Rec}{key:ByteArray}(h:∀y∈l,K y≠key.toList):Qpb l key=none:=by
 induction l with
 | nil=>rfl
 | cons r t ih =>
  rw[lastRec_cons,ih (fun y hy=>h y (List.mem_cons_of_mem _ hy)),if_neg (by simpa using h r (List.mem_cons_self ..))]
theorem last_key(l:List Rec){a b:ByteArray}(h:a.toList=b.toList):Qpb l a=Qpb l b:=by
 unfold Qpb;rw[h]
theorem comp_last:∀(l:List Rec),∀x∈comp l,Qpb l x.f2=some x
 | [],x,hx=>by simp[comp]at hx
 | r :: t,x,hx=>by
  rw[comp]at hx;rw[lastRec_cons];split at hx
  ·rw[comp_last t x hx]
  ·rename_i h
   rcases List.mem_cons.1 hx with rfl|hx
   ·rw[last_none (fun y hy e=>h (List.any_eq_true.2 ⟨y,hy,by simpa using e⟩)),if_pos (by simp)]
   ·rw[comp_last t x hx]
theorem byK_mem(l:List Rec)(x:Rec):x∈byK l↔x∈comp l:=by
 unfold byK;have:∀(cs out:List Rec),x∈cs.foldl (fun out r=>insK r out) out↔x∈cs∨x∈out:=by
  intro cs
  induction cs with
  | nil=>intro out;simp
  | cons r t ih =>
   intro out;rw[List.foldl_cons,ih,insK_mem,List.mem_cons]
   constructor
   ·rintro(h|h|h)
    ·exact .inl (.inr h)
    ·exact .inl (.inl h)
    ·exact .inr h
   ·rintro((h|h)|h)
    ·exact .inr (.inl h)
    ·exact .inl h
    ·exact .inr (.inr h)
 rw[this];simp
theorem byK_len(l:List Rec):(byK l).length≤l.length:=by
 unfold byK;have:∀(cs out:List Rec),(cs.foldl (fun out r=>insK r out) out).length=cs.length+out.length:=by
  intro cs
  induction cs with
  | nil=>intro out;simp
  | cons r t ih=>intro out;rw[List.foldl_cons,ih,insK_length,List.length_cons];omega
 rw[this];have:=comp_length l;simp;omega
theorem keys_last(l:List Rec)(i:Nat)(h:i<(Qoq l).length)(h2:i<(byK l).length):Qpb l (Qoq l)[i]=some (byK l)[i]:=by
 have hks:=keysL_is l;have e1:((Qoq l).map (·.toList))[i]? = ((byK l).map K)[i]?:=by rw[hks]
 rw[List.getElem?_map,List.getElem?_map,List.getElem?_eq_getElem h,List.getElem?_eq_getElem h2]at e1;have e2:(Qoq l)[i].toList=K (byK l)[i]:=by simpa using e1
 rw[last_key l (show(Qoq l)[i].toList=((byK l)[i]).f2.toList from e2)];exact comp_last l _ ((byK_mem l _).1 (List.getElem_mem h2))
theorem keys_len(l:List Rec):(Qoq l).length=(byK l).length:=by
 have:=congrArg List.length (keysL_is l)
 simpa using this
end Go.Proofs.YtepkfjmjidjedaaGreat.FoldP
end
section
namespace Go.Proofs.YtepkfjmjidjedaaGreat.Pure
open Go.RowKit Go.Proofs.YtepkfjmjidjedaaGreat.C Go.Proofs.YtepkfjmjidjedaaGreat.CodecP Go.Proofs.YtepkfjmjidjedaaGreatW.PrintWords Go.Proofs.YtepkfjmjidjedaaGreatW.PrintLast Go.Proofs.YtepkfjmjidjedaaGreatW.PrintMore Go.Proofs.YtepkfjmjidjedaaGreat.Open
noncomputable def endK(k:Nat)(L:List FoldP.Rec):Option (List FoldP.Rec × Int):=(Qbc.f L).bind fun t=>(Qbo.l1 k L [] t (t.length:Int) 0)
theorem look_l0{e s:Int}(hG:CodecP.Good e s)(hz1:szN e≤1000000)(b:List Int)(hb:Bytes b)(m:Nat)(hms:(m:Int)≤s)(hbl:b.length=m*(szN e).toNat):∀(d i k:Nat) (acc:List FoldP.Rec) (qs:List Pt),i+d=m→SegsOk e s (i:Int) qs→b.drop (i*(szN e).toNat)=segsB e s (i:Int) qs→acc.length+(qs.flatMap (fun p=>p.1)).length≤1000000→1000200≤k →
  Qbo.l0 (k+d+1) b acc (szN e) (m:Int) (i:Int) e s=endK k (acc++qs.flatMap (fun p=>p.1))
 | 0,i,k,acc,qs,hd,hq,hqb,ha,hk=>by
  have hz:=Qur hG.1 hG.2.1;have hq0:qs=[]:=by
   cases qs with
   | nil=>rfl
   | cons p u =>
    have:=congrArg List.length hqb;rw[segsB,List.length_append,hq.1.2.2,List.length_drop,hbl,show i=m by omega]at this;omega
  subst hq0;rw[Qbo.l0,if_neg (by omega)];simp[endK]
 | d+1,i,k,acc,qs,hd,hq,hqb,ha,hk=>by
  have hz:=Qur hG.1 hG.2.1;have hG':=hG;obtain⟨g1,g2,g3,g4⟩:=hG';obtain⟨z,hzz⟩:∃z:Nat,z=(szN e).toNat:=⟨_,rfl⟩;have hze:szN e=(z:Int):=by omega
  rw[← hzz]at hbl hqb;have hi:i<m:=by omega
  have hi2:i≤65536:=by omega
  have hb1:i*z≤65536*1000000:=Nat.mul_le_mul hi2 (by omega);have hb2:(i+1)*z≤m*z:=Nat.mul_le_mul_right _ hi;have hb3:(i+1)*z=i*z+z:=Nat.succ_mul _ _;have e2:((i:Int)+1)%4294967296=((i+1:Nat):Int):=by omega
  have HE2:=QA e2;clear e2;have HE3:=QA (show wrap64 (((i+1:Nat):Int)*szN e)=(((i+1)*z:Nat):Int)by
   rw[hze,← Int.natCast_mul,w64V _ (by omega)])
  have HE1:=QA (show wrap64 (wrap64 (i:Int)*szN e)=((i*z:Nat):Int)by
   rw[w64V i (by omega),hze,← Int.natCast_mul,w64V _ (by omega)])
  obtain⟨t,ht⟩:∃t,t=(b.take ((i+1)*z)).drop (i*z):=⟨_,rfl⟩;have htl:t.length=z:=by rw[ht,List.length_drop,List.length_take];omega
  have htd:(b.drop (i*z)).take z=t:=by rw[ht,List.drop_take,hb3,Nat.add_sub_cancel_left]
  have htb:Bytes t:=by rw[ht];exact(hb.take _).drop _
  have hdd:b.drop (i*z)=t++b.drop ((i+1)*z):=by
   rw[← htd,hb3,← List.drop_drop,List.take_append_drop]
  obtain⟨p,u,hpu,h1,h2,h3,h4⟩:∃p u,qs=p :: u∧SegOk e s (i:Int) p∧SegsOk e s ((i+1:Nat):Int) u∧t=segB e s (i:Int) p.1 p.2∧b.drop ((i+1)*z)=segsB e s ((i+1:Nat):Int) u:=by
   cases qs with
   | nil =>
    have:=congrArg List.length hqb;rw[hdd,List.length_append,htl]at this;simp[segsB]at this;omega
   | cons p u =>
    rw[segsB,hdd]at hqb;obtain⟨a1,a2⟩:=List.append_inj hqb (by rw[htl,hq.1.2.2,hzz]);exact⟨p,u,rfl,hq.1,hq.2,a1,a2⟩
  subst hpu;rw[List.flatMap_cons,List.length_append]at ha;rw[Qbo.l0,if_pos (by omega),HE1.out,HE2.out,HE3.out,if_pos (by omega),if_pos (by omega),if_pos (by omega),Int.toNat_natCast,Int.toNat_natCast,← ht,show k+(d+1)=k+d+1 by omega]
  rcases parse_spec hG (n:=(i:Int)) (by omega) (by omega) t htb (by omega) (by omega) (k+d+1) (by omega)with⟨l,sl,p1,p2,p3,p4,p5⟩ |⟨p1,p2⟩
  ·have hok:SegOk e s (i:Int) (l,sl):=⟨p2,p3,by rw[← p4,htl,hzz]⟩;have hpe:(l,sl)=p:=seg_uniq hok h1 (p4.symm.trans h3);have hl:l=p.1:=by rw[← hpe]
   rw[p1,Option.bind_some];dsimp only;rw[if_pos rfl,hl,if_pos (by omega)];rw[hzz]at hbl h4;refine Eq.trans (look_l0 hG hz1 b hb m hms hbl d (i+1) k (acc++p.1) u (by omega) h2 h4 (by rw[List.length_append];omega) hk) ?_;rw[List.flatMap_cons,List.append_assoc]
  ·exact absurd h3 (p2 p.1 p.2 h1.1 h1.2.1)
def recOf(L:List FoldP.Rec)(key:ByteArray):FoldP.Rec:=match Qpb L key with
 | some r=>r
 | none=>⟨false,0,⟨#[]⟩,⟨#[]⟩⟩
theorem rdOf_at(xs:List ByteArray)(i:Nat)(h:i<xs.length):rdOf ByteArray.empty xs (i:Int)=xs[i]:=by
 simp[rdOf,List.getElem?_eq_getElem h]
theorem look_l1(L:List FoldP.Rec)(ks:List ByteArray)(hks:ks.length≤1000000):∀(d j k:Nat) (out:List FoldP.Rec),j+d=ks.length→out.length≤j→Qbo.l1 (k+d+1) L out ks (ks.length:Int) (j:Int)=some (out++(ks.drop j).map (recOf L),0)
 | 0,j,k,out,hd,ho=>by
  rw[Qbo.l1,if_neg (by omega),List.drop_of_length_le (by omega)];simp
 | d+1,j,k,out,hd,ho=>by
  have hj:j<ks.length:=by omega
  have hl:Qbd.f L ks[j]=some ((recOf L ks[j]).f0,(recOf L ks[j]).f1,(recOf L ks[j]).f2,(recOf L ks[j]).f3,(Qpb L ks[j]).isSome):=by
   unfold Qbd.f recOf
   cases Qpb L ks[j]<;>rfl
  rw[Qbo.l1,if_pos (by omega),if_pos (by omega),if_pos (by omega),rdOf_at ks j hj,hl,Option.bind_some];dsimp only;rw[if_pos (by omega),Qtg j (by omega),show k+(d+1)=k+d+1 by omega];refine Eq.trans (look_l1 L ks hks d (j+1) k _ (by omega) (by rw[List.length_append,List.length_singleton];omega)) ?_;rw[List.drop_eq_getElem_cons hj,List.map_cons,List.append_assoc];rfl
theorem lives19:Qaw.f=some true:=by
 unfold Qaw.f;rw[show Qbp.f 12 1 ([]:List Int) (⟨#[97]⟩:ByteArray)=some (0,⟨#[]⟩,0,0,0,0) from rfl,Option.bind_some,show Qau.f=some true from rfl,Option.bind_some,if_pos rfl,if_pos rfl,if_pos (by decide +kernel),if_pos (by decide)];rfl
theorem sameL_l0(a:List FoldP.Rec)(hl:a.length≤1000000):∀(d j k:Nat),j+d=a.length→Qax.l0 (k+d+1) a a (a.length:Int) (j:Int)=some true
 | 0,j,k,hd=>by
  rw[Qax.l0,if_neg (by omega)]
 | d+1,j,k,hd=>by
  rw[Qax.l0,if_pos (by omega),if_pos (by omega),if_pos (by omega),if_pos (by omega),if_neg (by simp),Qtg j (by omega),show k+(d+1)=k+d+1 by omega];exact sameL_l0 a hl d (j+1) k (by omega)
theorem sameL_is(a:List FoldP.Rec)(hl:a.length≤1000000)(k:Nat)(hk:a.length+1≤k):Qax.f k a a=some true:=by
 unfold Qax.f;rw[if_pos rfl];have h:=sameL_l0 a hl a.length 0 (k-a.length-1) (by omega);rw[show k-a.length-1+a.length+1=k by omega]at h;exact h
theorem LookupAll:Qav.Pure:=by
 intro x0 l h0 hG0;have hl:l.length≤4611686018427387903:=by have:=hG0.1;omega
 have hw:Wf l:=wf_rowD (fun r hr=>(hG0.2 r hr).2.1);have hx:=wf_u8D h0;obtain⟨hsm,hG,hz8,hs8⟩:=small_img hx
 by_cases hf:few l 40 2000=true
 ·have hn:=few_len hf;have h1:l.length≤1000000:=by omega
  obtain⟨K0,hK0⟩:=FoldP.byKey_ev l (by omega);obtain⟨K,hK⟩:∃K:Nat,K=K0+l.length+20000000:=⟨_,rfl⟩;refine⟨K+1,?_⟩;unfold Qav.f;rw[lives19,Option.bind_some,if_pos rfl,Qwb l 40 2000 _ hl (by omega),Option.bind_some,Qav.j0];rw[if_neg (by simp[hf]),hsm,Option.bind_some];dsimp only;obtain⟨e,he⟩:∃e,e=12+x0%2:=⟨_,rfl⟩;obtain⟨s,hs⟩:∃s,s=1+x0/2%8:=⟨_,rfl⟩;rw[← he,← hs]at hG ⊢;rw[← he]at hz8;rw[← hs]at hs8
  by_cases hz:(Qvv e s l).2.2=0
  ·obtain⟨hg,hc,hil,f1,hA,hst⟩:=encode_img e s l K h1 hw (by omega) hz;obtain⟨img,himg⟩:∃img,img=imgP e s 0 (partsOf (Qvs e s l).1 l):=⟨_,rfl⟩;have hI:ImgOf e s l img:=⟨h1,hw,hz,himg⟩;obtain⟨hlen,hbt⟩:=img_small hG hz8 hs8 hI;obtain⟨hA2,hr⟩:=img_parts hI;obtain⟨qs,q1,q2,q3⟩:=img_segs hG _ 0 hA hr;have hql:=AllG.lenV (Int.le_refl 0) (by have:=hG.2.2.1;omega) hA;have hqm:qs.length=(partsOf (Qvs e s l).1 l).length:=by rw[← q3,List.length_map]
   have hzr:=Qur hG.1 hG.2.1;have hsl:=segs_len qs 0 q1;rw[q2,← himg]at hsl;have hfl:qs.flatMap (fun p=>p.1)=l:=by rw[List.flatMap_def,q3,partsOf_flat]
   have hdec:Qbo.f K e s img=some (FoldP.byK l,0):=by
    have hcnt:cntE e s img.length=0:=by
     unfold cntE;rw[hsl];have h4:((qs.length*(szN e).toNat:Nat):Int)≤szN e*s:=by
      rw[Int.natCast_mul,Int.toNat_of_nonneg (by omega),Int.mul_comm];exact Int.mul_le_mul_of_nonneg_left (by omega) (by omega)
     rw[if_neg (by omega),Nat.mul_mod_left,if_pos rfl]
    unfold Qbo.f;rw[count_spec hG img.length (by omega),Option.bind_some];dsimp only;rw[if_pos hcnt,Qus hG,Option.bind_some,if_pos hcnt,hsl,Nat.mul_div_cancel _ (show 0<(szN e).toNat by omega)];have hrun:=look_l0 hG (by omega) img hbt qs.length (by omega) hsl qs.length 0 (K-qs.length-1) [] qs (by omega) q1 (by rw[Nat.zero_mul,List.drop_zero,himg];exact q2.symm) (by rw[hfl,List.length_nil];omega) (by omega);rw[show K-qs.length-1+qs.length+1=K by omega,hfl,List.nil_append]at hrun;refine Eq.trans hrun ?_;have hko:Qol l=true:=by
     unfold Qol;refine List.all_eq_true.2 fun x hxl=>decide_eq_true ?_
     have:=(hn.2 x hxl).1;unfold maxLen;omega
    have hkl:=FoldP.keys_len l;have hbl:=FoldP.byK_len l;unfold endK Qbc.f;rw[if_pos hko,if_pos (by omega),Option.bind_some];have h2:=look_l1 l (Qoq l) (by omega) (Qoq l).length 0 (K-qs.length-1-(Qoq l).length-1) [] (by omega) (Nat.le_refl _);rw[show K-qs.length-1-(Qoq l).length-1+(Qoq l).length+1=K-qs.length-1 by omega,List.drop_zero,List.nil_append]at h2;refine Eq.trans h2 ?_
    congr 2
    apply List.ext_getElem
    ·rw[List.length_map,hkl]
    ·intro i a1 a2;rw[List.getElem_map];unfold recOf;rw[FoldP.keys_last l i (by rw[List.length_map]at a1;exact a1) a2]
   have hbl:=FoldP.byK_len l;rw[f1,← himg,Option.bind_some];dsimp only;rw[if_pos rfl,hdec,Option.bind_some];dsimp only;have hbk:Qay.f K l=some (FoldP.byK l):=hK0 K (by omega);rw[if_pos rfl,hbk,Option.bind_some,sameL_is _ (by omega) K (by omega),Option.bind_some]
  ·have hb:=Qyw e s l K h1 hw (by omega) hz;rw[hb,Option.bind_some];dsimp only;rw[if_neg hz];rfl
 ·refine⟨l.length+5,?_⟩;unfold Qav.f;rw[lives19,Option.bind_some,if_pos rfl,Qwb l 40 2000 _ hl (by omega),Option.bind_some,Qav.j0,if_pos (by simp[hf]),lives19,Option.bind_some]
end Go.Proofs.YtepkfjmjidjedaaGreat.Pure
end
