/- Texts of this claim's author and of the print of its functions, merged by merge.py. -/
import Derived.Test.YtnnofopfbeklbaaGreatMH37
import Derived.Test.YtnnofopfbeklbaaGreatMH35
set_option linter.unusedVariables false
set_option linter.unusedSimpArgs false
set_option maxHeartbeats 8000000
set_option maxRecDepth 100000
section
namespace Go.Proofs.YtnnofopfbeklbaaGreat.CodecP
open Go.RowKit Go.Proofs.YtnnofopfbeklbaaGreat.C Go.Proofs.YtnnofopfbeklbaaGreatW.PrintWords Go.Proofs.YtnnofopfbeklbaaGreatW.PrintLast Go.Proofs.YtnnofopfbeklbaaGreatW.PrintMore
theorem chkL_oks:∀ {g:List Rec},(∀r∈g,okR r)→chkL g=0
 | [],_=>rfl
 | r :: g,h=>by
  have h1:=(h r (List.mem_cons_self ..)).1
  have ih:=chkL_oks (g:=g) (fun x hx=>h x (List.mem_cons_of_mem _ hx))
  unfold chkL
  rw[h1,ih]
  simp
theorem seg_refs{e s n:Int}(hG:Good e s)(h0:0≤n)(h1:n<s)(l:List Rec)(b:Bool)(k K:Nat)(hl:l.length≤1000000)(hw:Wf l)(hc:chkL l=0)(hK:∀r∈l,2*(r.f2.size+r.f3.size)+300≤K)
  (hnd:(fillB e s n (freshB e s n) l).2.2.Nodup) (hwe:∀x∈(fillB e s n (freshB e s n) l).2.2,wfE x) (hlen:(fillB e s n (freshB e s n) l).2.2.length≤l.length)
  (hfit:((tailB (fillB e s n (freshB e s n) l) b).length:Int)≤1000000000) (hk:K+60*l.length+20000000≤k) :
  ∃t,Qce.f k e s n l b=some t∧bytesOf t=tailB (fillB e s n (freshB e s n) l) b++List.replicate ((szN e).toNat-(tailB (fillB e s n (freshB e s n) l) b).length) 255:=by
 have hsz:=Qvf hG.1 hG.2.1
 have hg:=hG
 obtain⟨g1,g2,g3,g4⟩:=hg
 obtain⟨B,hB⟩:∃B,B=fillB e s n (freshB e s n) l:=⟨_,rfl⟩
 rw[← hB]at hnd hwe hlen hfit ⊢
 obtain⟨th,e1,b1⟩:=Qux k e s n (by omega) (by omega) (by omega) (by omega) (by omega) (by omega) (by omega)
 have hhd:=Qvb e s n
 have hth:(th.size:Int)=Quz e s n:=by rw[Qmn,b1];rfl
 obtain⟨t,k',hk',b2,e2⟩:=frames_run e s n l hl hw hc K hK l.length 0 k (freshB e s n) th (by omega) b1 (by simp[freshB]) (by omega) (by omega)
 rw[List.drop_zero,← hB]at b2 e2
 have hso:=sort_ref B.2.2 k' (by omega) hnd (by omega)
 rw[hso,Option.bind_some]at e2
 have hF:Qcc.f k e s n l=some (t,(Qpj B.2.2).map toR):=by
  unfold Qcc.f
  rw[e1,Option.bind_some]
  exact e2
 have hts:t.size=B.2.1.length:=by rw[Qmn,b2]
 have hszk:=Qvi hG k (by omega)
 have hb255:∀m:Nat,bytesOf (strOfNums (List.replicate m 255))=List.replicate m 255:=fun m=>bytesOf_nums (fun x hx=>by have:=List.eq_of_mem_replicate hx;omega)
 unfold Qce.f
 rw[hF,Option.bind_some]
 dsimp only
 cases b with
 | true =>
  unfold tailB at hfit ⊢
  rw[if_pos rfl]at hfit ⊢
  have hu:(t.size:Int)%4294967296=Qqh B:=by unfold Qqh;rw[hts]
  have hur:0≤Qqh B∧Qqh B<4294967296:=by unfold Qqh;omega
  obtain⟨tf,e3,b3⟩:=foot_ref (Qqh B) (Qpj B.2.2) k hur.1 hur.2 (by rw[Qpk];omega) (fun x hx=>hwe x ((Qpt _).mem_iff.1 hx)) (by rw[Qpk];omega)
  have htf:tf.size=(Qqe (Qqh B) (Qpj B.2.2)).length:=by rw[Qmn,b3]
  rw[List.length_append]at hfit ⊢
  rw[if_pos rfl,hu,e3,Option.bind_some,if_pos (by omega),hszk,Option.bind_some]
  have hz:(t++tf).size=t.size+tf.size:=ByteArray.size_append
  rw[wrap_small (show 0≤szN e by omega) (by omega),show wrap64 (szN e-((t++tf).size:Int))=szN e-((t++tf).size:Int)by unfold wrap64;omega,erased_ref _ k (by omega) (by omega),Option.bind_some]
  have hr:(szN e-((t++tf).size:Int)).toNat=(szN e).toNat-(B.2.1.length+(Qqe (Qqh B) (Qpj B.2.2)).length):=by omega
  rw[hr]
  have hq:=congrArg List.length (hb255 ((szN e).toNat-(B.2.1.length+(Qqe (Qqh B) (Qpj B.2.2)).length)))
  rw[← Qmn,List.length_replicate]at hq
  rw[if_pos (by omega)]
  refine⟨_,rfl,?_⟩
  rw[Qnq,Qnq,hb255,b2,b3]
 | false =>
  have ht0:tailB B false=B.2.1:=by simp[tailB]
  rw[ht0]at hfit ⊢
  rw[if_neg (by simp),hszk,Option.bind_some]
  rw[wrap_small (show 0≤szN e by omega) (by omega),show wrap64 (szN e-(t.size:Int))=szN e-(t.size:Int)by unfold wrap64;omega,erased_ref _ k (by omega) (by omega),Option.bind_some]
  have hr:(szN e-(t.size:Int)).toNat=(szN e).toNat-B.2.1.length:=by omega
  rw[hr]
  have hq:=congrArg List.length (hb255 ((szN e).toNat-B.2.1.length))
  rw[← Qmn,List.length_replicate]at hq
  rw[if_pos (by omega)]
  refine⟨_,rfl,?_⟩
  rw[Qnq,hb255,b2]
theorem pskip(n:Int)(s:ByteArray)(hs:s.size≤1000000)(L:List Rec)(x10 e s0:Int):∀(d i k:Nat),i+d≤s.size→(∀j,i≤j→j<i+d→bt s (j:Int)≠0)→Qcd.l0 (k+d) n s L x10 (i:Int) e s0=Qcd.l0 k n s L x10 ((i+d:Nat):Int) e s0
 | 0,i,k,_,_=>rfl
 | d+1,i,k,h,hz=>by
  rw[show k+(d+1)=(k+d)+1 by omega]
  rw[Qcd.l0,if_pos (by omega),if_pos (by omega),if_neg (hz i (by omega) (by omega)),Qoc i (by omega)]
  rw[pskip n s hs L x10 e s0 d (i+1) k (by omega) (fun j h1 h2=>hz j (by omega) (by omega)),show i+1+d=i+(d+1)by omega]
theorem free_at{s:ByteArray}{u:Nat}{a R:List Int}(h:(bytesOf s).drop u=a++R)(ha:Free a):∀j,u≤j→j<u+a.length→bt s (j:Int)≠0:=by
 intro j h1 h2
 have hd:(bytesOf s).drop j=a.drop (j-u)++R:=by
  rw[show j=u+(j-u)by omega,← List.drop_drop,h,List.drop_append_of_le_length (by omega),Nat.add_sub_cancel_left]
 have hc:a.drop (j-u)=a[j-u]'(by omega) :: a.drop (j-u+1):=List.drop_eq_getElem_cons (by omega)
 rw[hc,List.cons_append]at hd
 obtain⟨_,h3,_⟩:=Qwp hd
 rw[Qob,h3]
 exact ha _ (List.getElem_mem _)
theorem pscan(n:Int)(s:ByteArray)(hs:s.size≤1000000)(K:Nat)(hK:4*s.size+300≤K)(e s0:Int):∀(f u k:Nat) (R:List Int) (L:List Rec),R.length<f→(bytesOf s).drop u=R→u+R.length=s.size→L.length≤u→K+R.length+1≤k →
  ∃l' R' k',K≤k'∧Qcd.l0 k n s L (u:Int) (u:Int) e s0=Qcd.j1 k' n s (L++l') e s0∧(∀r∈l',okR r)∧R=l'.flatMap Qvm++R'∧Qwj R':=by
 intro f
 induction f with
 | zero=>intro u k R L h;omega
 | succ f ih =>
  intro u k R L hf hd hu hL hk
  have hsl:=Qdf s
  have hRb:Bytes R:=fun x hx=>Qmj s x (List.mem_of_mem_drop (hd ▸ hx))
  rcases Qvq R with hfr |⟨a,b,rfl,hfa⟩
  ·obtain⟨k,rfl⟩:∃m,k=(m+1)+R.length:=⟨k-R.length-1,by omega⟩
   rw[pskip n s hs L _ e s0 R.length u (k+1) (by omega) (free_at (R:=[]) (by rw[hd,List.append_nil]) hfr)]
   refine⟨[],R,k,by omega,?_,(fun r h=>by cases h),rfl,fun r x hr he=>seal_not_free hfr he⟩
   rw[Qcd.l0,if_neg (by omega),List.append_nil]
  ·rw[List.length_append,List.length_cons]at hu hf hk
   have hba:Bytes a:=fun x hx=>hRb x (List.mem_append_left _ hx)
   obtain⟨k,rfl⟩:∃m,k=(m+1)+a.length:=⟨k-a.length-1,by omega⟩
   rw[pskip n s hs L _ e s0 a.length u (k+1) (by omega) (free_at hd hfa)]
   have hd2:(bytesOf s).drop (u+a.length)=0 :: b:=by rw[← List.drop_drop,hd,List.drop_left]
   obtain⟨_,hz,hd3⟩:=Qwp hd2
   have hex:bytesOf (s.extract u (u+a.length))=a:=by rw[Qmm,hd,Nat.add_sub_cancel_left,List.take_left]
   have hxz:(s.extract u (u+a.length)).size=a.length:=by rw[Qmn,hex]
   obtain⟨r1,r2,r3,r4,r5,g1,g2,g3⟩:=Qyi (s.extract u (u+a.length)) (by omega) (by rw[hex];exact hfa) k (by omega)
   rw[hex]at g2 g3
   rw[Qcd.l0,if_pos (by omega),if_pos (by omega),Qob,hz,if_pos rfl,if_pos (by omega),if_pos (by omega),if_pos (by omega),if_pos (by omega),Int.toNat_natCast,Int.toNat_natCast,g1,Option.bind_some]
   dsimp only
   by_cases h5:r5=0
   ·obtain⟨g4,g5⟩:=g2 h5
    rw[if_pos h5,if_pos (by omega),Qoc _ (by omega)]
    obtain⟨l',R',k',q1,q2,q3,q4,q5⟩:=ih (u+a.length+1) k b (L++[⟨r1,r2,r3,r4⟩]) (by omega) hd3 (by omega) (by rw[List.length_append,List.length_singleton];omega) (by omega)
    refine⟨⟨r1,r2,r3,r4⟩ :: l',R',k',q1,?_,?_,?_,q5⟩
    ·rw[q2,List.append_assoc]
     rfl
    ·intro r hr
     rcases List.mem_cons.1 hr with rfl|hr
     ·exact g4
     ·exact q3 r hr
    ·rw[List.flatMap_cons,← g5,List.append_assoc,List.append_assoc,← q4]
     rfl
   ·rw[if_neg h5]
    exact⟨[],_,k,by omega,by rw[List.append_nil],(fun r h=>by cases h),rfl,fun r x hr he=>h5 (g3 r hr (seal_chunk (Qwh hr) hfa he).1).1⟩
theorem pref(n:Int)(s:ByteArray)(hs:s.size≤1000000)(K:Nat)(hK:4*s.size+300≤K)(e s0:Int)(k:Nat)(hk:K+s.size+2≤k) :
  ∃l k',K≤k'∧Qcd.f k e s0 n s=Qcd.j1 k' n s l e s0∧(∀r∈l,okR r)∧(l.flatMap Qvm).length≤s.size∧(∀z R,Free z→bytesOf s=(z++[0])++R→∃R',R=l.flatMap Qvm++R'∧Qwj R'):=by
 have hsl:=Qdf s
 unfold Qcd.f
 rw[show(0:Int)=((0:Nat):Int) from rfl]
 rcases Qvq (bytesOf s)with hfr |⟨a,b,hab,hfa⟩
 ·obtain⟨k,rfl⟩:∃m,k=(m+1)+s.size:=⟨k-s.size-1,by omega⟩
  rw[pskip n s hs [] _ e s0 s.size 0 (k+1) (by omega) (by rw[← hsl];exact free_at (R:=[]) (by rw[List.drop_zero,List.append_nil]) hfr)]
  refine⟨[],k,by omega,?_,(fun r h=>by cases h),by simp,fun z R hz he=>?_⟩
  ·rw[Qcd.l0,if_neg (by omega)]
  ·exfalso
   exact hfr 0 (by rw[he];simp) rfl
 ·have hl:=congrArg List.length hab
  rw[List.length_append,List.length_cons]at hl
  obtain⟨k,rfl⟩:∃m,k=(m+1)+a.length:=⟨k-a.length-1,by omega⟩
  rw[pskip n s hs [] _ e s0 a.length 0 (k+1) (by omega) (free_at (by rw[List.drop_zero];exact hab) hfa),Nat.zero_add]
  have hd2:(bytesOf s).drop a.length=0 :: b:=by rw[hab,List.drop_left]
  obtain⟨_,hz,hd3⟩:=Qwp hd2
  rw[Qcd.l0,if_pos (by omega),if_pos (by omega),Qob,hz,if_pos rfl,if_neg (by omega),Qoc _ (by omega)]
  obtain⟨l',R',k',q1,q2,q3,q4,q5⟩:=pscan n s hs K hK e s0 (b.length+1) (a.length+1) k b [] (by omega) hd3 (by omega) (Nat.zero_le _) (by omega)
  refine⟨l',k',q1,q2,q3,?_,fun z R hzf he=>?_⟩
  ·have:=congrArg List.length q4
   rw[List.length_append]at this
   omega
  ·rw[hab,List.append_assoc]at he
   obtain⟨rfl,rfl⟩:=Qvx hfa hzf he
   exact⟨R',q4,q5⟩
theorem frames_refs{e s:Int}(hG:Good e s){n:Int}(h0:0≤n)(h1:n<s)(l:List Rec)(hl:∀r∈l,okR r)(hll:((partB e s n l).2.1.length:Int)≤1000000)(K:Nat)(hK:30000000≤K):∃tb,Qcc.f K e s n l=some (strOfNums (partB e s n l).2.1,tb):=by
 obtain⟨g1,g2,g3,g4⟩:=hG
 obtain⟨⟨b1,b2,b3,b4,b5⟩,_⟩:=part_ok e s n l (by omega)
 have hcnt:=frames_count l
 have hpf:=congrArg List.length (part_frames e s n l)
 rw[List.length_append]at hpf
 have hhd:=Qvb e s n
 obtain⟨th,e1,bh⟩:=Qux K e s n (by omega) (by omega) (by omega) (by omega) (by omega) (by omega) (by omega)
 have hth:(th.size:Int)=Quz e s n:=by rw[Qmn,bh];rfl
 obtain⟨tf,k',hk',bf,ef⟩:=frames_run e s n l (by omega) (fun r hr=>(hl r hr).2) (chkL_oks hl) 3000000 (fun r hr=>by have:=Qnf (hl r hr).1;omega) l.length 0 K (freshB e s n) th (by omega) bh (by simp[freshB]) (by omega) (by omega)
 rw[List.drop_zero]at bf ef
 have hso:=sort_ref (partB e s n l).2.2 k' (by omega) (Qyu b4) (by omega)
 have ef2:Qcc.l0 K th ((freshB e s n).2.2.map toR) l (l.length:Int) 0=some (tf,(Qpj (partB e s n l).2.2).map toR):=by
  have h2:Qbv.f k' ((fillB e s n (freshB e s n) l).2.2.map toR)=some ((Qpj (partB e s n l).2.2).map toR):=hso
  have h3:=ef
  rw[h2,Option.bind_some]at h3
  exact h3
 have htf:tf=strOfNums (partB e s n l).2.1:=by
  have:bytesOf tf=(partB e s n l).2.1:=bf
  rw[← this,Qnt]
 refine⟨(Qpj (partB e s n l).2.2).map toR,?_⟩
 unfold Qcc.f
 rw[e1,Option.bind_some,← htf]
 exact ef2
theorem text_refs{e s:Int}(hG:Good e s){n:Int}(h0:0≤n)(h1:n<s)(l:List Rec)(hl:∀r∈l,okR r)(hll:((partB e s n l).2.1.length:Int)≤1000000)(b:Bool)(K:Nat)(hK:90000000≤K):∃t,Qce.f K e s n l b=some t∧bytesOf t=segB e s n l b:=by
 obtain⟨⟨b1,b2,b3,b4,b5⟩,_⟩:=part_ok e s n l (by omega)
 have hcnt:=frames_count l
 have hpf:=congrArg List.length (part_frames e s n l)
 rw[List.length_append]at hpf
 have hfl:=Qym (Qqh (partB e s n l)) (Qpj (partB e s n l).2.2)
 rw[Qpk]at hfl
 have hmm:=Qvj ((partB e s n l).2.2.length:Int) (by omega) (by omega)
 have hmost:Qvc ((partB e s n l).2.2.length:Int)≤100000000:=by unfold Qvc;omega
 exact seg_refs hG h0 h1 l b K 3000000 (by omega) (fun r hr=>(hl r hr).2) (chkL_oks hl) (fun r hr=>by have:=Qnf (hl r hr).1;omega) (Qyu b4) (fun x hx=>(b3 x hx).1) b2 (by
  show((tailB (partB e s n l) b).length:Int)≤1000000000
  unfold tailB
  rw[List.length_append]
  split
  ·omega
  ·rw[List.length_nil];omega) (by omega)
theorem head_seal{e s:Int}(hG:Good e s){n:Int}(h0:0≤n)(h1:n<s):∃z,Qno e s n=z++[0]∧Free z:=by
 obtain⟨a,b,c,d⟩:=hG
 refine seal_form (Bytes.app (Bytes.app ?_ (Qwd s (by omega) (by omega))) (Qwd n h0 (by omega)))
 intro x hx
 simp at hx
 omega
theorem seg_least(e s n:Int)(l:List Rec)(b:Bool):(szN e).toNat≤(segB e s n l b).length:=by
 unfold segB
 rw[List.length_append,List.length_replicate]
 omega
theorem seg_head(e s n:Int)(l:List Rec)(b:Bool):∃R,segB e s n l b=Qno e s n++R:=by
 unfold segB tailB
 rw[part_frames,List.append_assoc,List.append_assoc]
 exact⟨_,rfl⟩
theorem seg_pad{m:Nat}{a b t:List Int}{N:Nat}(ht:t=a++List.replicate m 255)(hl:t.length=N):t=a++List.replicate (N-a.length) 255:=by
 have:=congrArg List.length ht
 rw[List.length_append,List.length_replicate]at this
 rw[ht,show N-a.length=m by omega]
theorem j1_none{e s:Int}(hG:Good e s){n:Int}(h0:0≤n)(h1:n<s)(txt:ByteArray)(l:List Rec)(hl:∀r∈l,okR r)(hll:((partB e s n l).2.1.length:Int)≤1000000)(k:Nat)(hk:90000001≤k)(hf:bytesOf txt≠segB e s n l false)(ht:l≠[]→bytesOf txt≠segB e s n l true):∃l0 se,Qcd.j1 k n txt l e s=some (l0,se,false):=by
 obtain⟨k,rfl⟩:∃m,k=m+1:=⟨k-1,by omega⟩
 obtain⟨t1,a1,a2⟩:=text_refs hG h0 h1 l hl hll false k (by omega)
 obtain⟨t2,c1,c2⟩:=text_refs hG h0 h1 l hl hll true k (by omega)
 unfold Qcd.j1
 dsimp only
 rw[a1,Option.bind_some,if_neg (fun h=>hf (by rw[←(Qxo _ _).1 h,a2]))]
 by_cases hz:l=[]
 ·rw[if_neg (by rw[hz];simp)]
  exact⟨_,_,rfl⟩
 ·have hp:0<l.length:=List.length_pos_iff.2 hz
  rw[if_pos (by omega),c1,Option.bind_some,if_neg (fun h=>ht hz (by rw[←(Qxo _ _).1 h,c2]))]
  exact⟨_,_,rfl⟩
theorem j1_open{e s:Int}(hG:Good e s){n:Int}(h0:0≤n)(h1:n<s)(txt:ByteArray)(l:List Rec)(hl:∀r∈l,okR r)(hll:((partB e s n l).2.1.length:Int)≤1000000)(k:Nat)(hk:90000001≤k)(hf:bytesOf txt=segB e s n l false):Qcd.j1 k n txt l e s=some (l,false,true):=by
 obtain⟨k,rfl⟩:∃m,k=m+1:=⟨k-1,by omega⟩
 obtain⟨t1,a1,a2⟩:=text_refs hG h0 h1 l hl hll false k (by omega)
 unfold Qcd.j1
 dsimp only
 rw[a1,Option.bind_some,if_pos ((Qxo _ _).2 (by rw[a2,hf]))]
theorem j1_seal{e s:Int}(hG:Good e s){n:Int}(h0:0≤n)(h1:n<s)(txt:ByteArray)(l:List Rec)(hl:∀r∈l,okR r)(hll:((partB e s n l).2.1.length:Int)≤1000000)(k:Nat)(hk:90000001≤k)(hf:bytesOf txt≠segB e s n l false)(hz:l≠[])(ht:bytesOf txt=segB e s n l true):Qcd.j1 k n txt l e s=some (l,true,true):=by
 obtain⟨k,rfl⟩:∃m,k=m+1:=⟨k-1,by omega⟩
 obtain⟨t1,a1,a2⟩:=text_refs hG h0 h1 l hl hll false k (by omega)
 obtain⟨t2,c1,c2⟩:=text_refs hG h0 h1 l hl hll true k (by omega)
 have hp:0<l.length:=List.length_pos_iff.2 hz
 unfold Qcd.j1
 dsimp only
 rw[a1,Option.bind_some,if_neg (fun h=>hf (by rw[←(Qxo _ _).1 h,a2])),if_pos (by omega),c1,Option.bind_some,if_pos ((Qxo _ _).2 (by rw[c2,ht]))]
theorem spt_all{e s:Int}(hG:Good e s){n:Int}(hn:0≤n∧n<4294967296)(t:List Int)(ht:Bytes t)(htl:(t.length:Int)≤szN e)(hsz2:szN e≤10000)(k:Nat)(hk:100000000≤k):SPT k e s n t:=by
 have hsz:=Qvf hG.1 hG.2.1
 have hmay:Qbq.f e s n=some (decide (n<s)):=by
  unfold Qbq.f
  have hg:=hG
  obtain⟨g1,g2,g3,g4⟩:=hg
  rw[Qve hG,Option.bind_some,if_pos rfl,IntWalk.u64_in _ (by omega)]
 by_cases hns:n<s
 ·rw [decide_eq_true hns]at hmay
  have hph:=Qvk hG n hn.1 hns
  have hcs:=Qvg hG
  have hhd:=Qvb e s n
  have hHb:Bytes (Qno e s n):=by
   obtain⟨g1,g2,g3,g4⟩:=hG
   exact head_bytes ⟨by omega,by omega⟩ ⟨by omega,by omega⟩ ⟨by omega,by omega⟩
  have hbt:bytesOf (strOfNums t)=t:=bytesOf_nums ht
  have hts:(strOfNums t).size=t.length:=by rw[Qmn,hbt]
  obtain⟨z,hz,hzf⟩:=head_seal hG hn.1 hns
  obtain⟨l1,k1,p1,p2,p3,p4,p5⟩:=pref n (strOfNums t) (by omega) 99900000 (by omega) e s k (by omega)
  have hA:∀l:List Rec,(l.flatMap Qvm).length≤t.length→((partB e s n l).2.1.length:Int)≤1000000:=fun l h=>by
   rw[part_frames,List.length_append]
   unfold Quz at hhd
   omega
  rw[hts]at p4
  rw[hbt]at p5
  by_cases hsize:(t.length:Int)=szN e
  ·by_cases hhead:t.take (Qno e s n).length=Qno e s n
   ·have htR:t=Qno e s n++t.drop (Qno e s n).length:=by
     conv=>lhs;rw[← List.take_append_drop (Qno e s n).length t,hhead]
    obtain⟨l,R,res,s1,s2,s3,s4,s5⟩:=scan_spec e s n k t ht (by omega) (by omega) (t.length+1) [] (t.drop (Qno e s n).length) qq_19 (fun r h=>by cases h) htR
    have hpi:∀res',res'=res→Qul k e s n t res' 4:=by
     rintro _ rfl
     exact⟨Qno e s n,0,hph,.inr ⟨rfl,rfl,szN e,hcs,ht,hHb,by omega,.inr (.inr ⟨hsize,hhead,t.length+1,s1⟩)⟩⟩
    obtain⟨R',q1,q2⟩:=p5 z _ hzf (by rw[← hz];exact htR)
    have htl2:=s3
    rw[part_frames,List.append_assoc]at htl2
    have hdr:t.drop (Qno e s n).length=l.flatMap Qvm++R:=by
     conv=>lhs;rw[htl2]
     rw[List.drop_left]
    obtain⟨rfl,rfl⟩:=Qwk s2 p3 s4 q2 (by rw[← hdr,← q1])
    have hll:=hA l p4
    obtain⟨okb,_⟩:=part_ok e s n l (by omega)
    have hu:Qqh (partB e s n l)=((partB e s n l).2.1.length:Int):=by unfold Qqh;omega
    have hfit:t.length=(szN e).toNat:=by omega
    have hseg0:∀m,R=List.replicate m 255→t=segB e s n l false:=fun m hm=>by
     have:tailB (partB e s n l) false=(partB e s n l).2.1:=by simp[tailB]
     unfold segB
     rw[this]
     exact seg_pad (b:=[]) (m:=m) (by rw[← hm];exact s3) hfit
    have hseg0':t=segB e s n l false→∃m,R=List.replicate m 255:=fun h=>by
     have e1:tailB (partB e s n l) false=(partB e s n l).2.1:=by simp[tailB]
     unfold segB at h
     rw[e1]at h
     rw[h]at s3
     exact⟨_,(List.append_cancel_left s3).symm⟩
    have hseg1:∀m,R=Qqe ((partB e s n l).2.1.length:Int) (Qpj (partB e s n l).2.2)++List.replicate m 255→t=segB e s n l true:=fun m hm=>by
     have:tailB (partB e s n l) true=(partB e s n l).2.1++Qqe ((partB e s n l).2.1.length:Int) (Qpj (partB e s n l).2.2):=by unfold tailB;rw[if_pos rfl,hu]
     unfold segB
     rw[this]
     exact seg_pad (b:=[]) (m:=m) (by rw[List.append_assoc,← hm];exact s3) hfit
    have hseg1':t=segB e s n l true→∃m,R=Qqe ((partB e s n l).2.1.length:Int) (Qpj (partB e s n l).2.2)++List.replicate m 255:=fun h=>by
     have e1:tailB (partB e s n l) true=(partB e s n l).2.1++Qqe ((partB e s n l).2.1.length:Int) (Qpj (partB e s n l).2.2):=by unfold tailB;rw[if_pos rfl,hu]
     unfold segB at h
     rw[e1,List.append_assoc]at h
     rw[h]at s3
     exact⟨_,(List.append_cancel_left s3).symm⟩
    have hno:∀m m',Qqe ((partB e s n l).2.1.length:Int) (Qpj (partB e s n l).2.2)++List.replicate m 255≠List.replicate m' 255:=fun m m' h=>by
     have h0:(0:Int)∈List.replicate m' (255:Int):=by rw[← h];exact List.mem_append_left _ (Qwa _)
     have:=List.eq_of_mem_replicate h0
     omega
    have hcnt:=frames_count l
    have hszA:(strOfNums (partB e s n l).2.1).size=(partB e s n l).2.1.length:=strOfNums_size _
    obtain⟨tb,f1⟩:=frames_refs hG hn.1 hns l s2 hll k (by omega)
    have hat:∀i:Nat,i<l.length→∃tx tb,Qcc.f k e s n (l.take i)=some (tx,tb)∧rd (offs e s n l) (i:Int)=(tx.size:Int)∧tx.size≤1000000000:=by
     intro i hi
     have hle:(((l.take i)).flatMap Qvm).length≤(l.flatMap Qvm).length:=by
      conv=>rhs;rw[← List.take_append_drop i l,List.flatMap_append,List.length_append]
      omega
     have h2:=hA (l.take i) (by omega)
     obtain⟨tb',f2⟩:=frames_refs hG hn.1 hns (l.take i) (fun r hr=>s2 r (List.mem_of_mem_take hr)) h2 k (by omega)
     have h3:(strOfNums (partB e s n (l.take i)).2.1).size=(partB e s n (l.take i)).2.1.length:=strOfNums_size _
     exact⟨_,_,f2,by rw[offs_at e s n l i hi,h3],by omega⟩
    rcases s5 with⟨rfl,m,hm⟩ |⟨rfl,hne,m,hm⟩ |⟨rfl,hn1,hn2⟩
    ·refine .inr (.inr ⟨hmay,l,offs e s n l,false,_,tb,⟨by omega,by omega⟩,offs_length e s n l,hpi _ (by rw[hszA]),?_,f1,hat⟩)
     rw[p2]
     exact j1_open hG hn.1 hns _ l s2 hll k1 (by omega) (by rw[hbt];exact hseg0 m hm)
    ·refine .inr (.inr ⟨hmay,l,offs e s n l,true,_,tb,⟨by omega,by omega⟩,offs_length e s n l,hpi _ (by rw[hszA]),?_,f1,hat⟩)
     rw[p2]
     refine j1_seal hG hn.1 hns _ l s2 hll k1 (by omega) (fun h=>?_) hne (by rw[hbt];exact hseg1 m hm)
     rw[hbt]at h
     obtain⟨m',hm'⟩:=hseg0' h
     exact hno m m' (by rw[← hm,← hm'])
    ·refine .inr (.inl ⟨hpi _ rfl,hmay,?_⟩)
     rw[p2]
     refine j1_none hG hn.1 hns _ l s2 hll k1 (by omega) (fun h=>?_) (fun hne h=>?_)
     ·rw[hbt]at h
      obtain⟨m',hm'⟩:=hseg0' h
      exact hn1 m' hm'
     ·rw[hbt]at h
      obtain⟨m',hm'⟩:=hseg1' h
      exact hn2 hne m' hm'
   ·refine .inr (.inl ⟨⟨Qno e s n,0,hph,.inr ⟨rfl,rfl,szN e,hcs,ht,hHb,by omega,.inr (.inl ⟨hsize,hhead,rfl⟩)⟩⟩,hmay,?_⟩)
    rw[p2]
    have hno:∀b,bytesOf (strOfNums t)≠segB e s n l1 b:=fun b h=>by
     rw[hbt]at h
     obtain⟨R,hR⟩:=seg_head e s n l1 b
     apply hhead
     rw[h,hR,List.take_left]
    exact j1_none hG hn.1 hns _ l1 p3 (hA l1 p4) k1 (by omega) (hno false) (fun _=>hno true)
  ·refine .inr (.inl ⟨⟨Qno e s n,0,hph,.inr ⟨rfl,rfl,szN e,hcs,ht,hHb,by omega,.inl ⟨hsize,rfl⟩⟩⟩,hmay,?_⟩)
   rw[p2]
   have hno:∀b,bytesOf (strOfNums t)≠segB e s n l1 b:=fun b h=>by
    rw[hbt]at h
    have:=seg_least e s n l1 b
    rw[← h]at this
    omega
   exact j1_none hG hn.1 hns _ l1 p3 (hA l1 p4) k1 (by omega) (hno false) (fun _=>hno true)
 ·rw[decide_eq_false hns]at hmay
  refine .inl ⟨⟨[],1,?_,.inl ⟨by decide,rfl,rfl⟩⟩,hmay⟩
  unfold Qci.f Qcj.f
  rw[Qvd hG,Option.bind_some,if_pos rfl,if_pos (by omega),Option.bind_some,if_neg (by decide)]
theorem sp_all(x0 x1 x3:Int)(l:List Int)(h0:0≤x0∧x0<256)(h1:0≤x1∧x1<4294967296)(h3:0≤x3∧x3<256)(hb:Bytes l):SP 100000000 x0 x1 l x3:=by
 by_cases hl:600<l.length
 ·exact .inl hl
 ·obtain⟨e,he⟩:∃e,e=12+x0%2:=⟨_,rfl⟩
  obtain⟨s,hs⟩:∃s,s=1+x0/2%8:=⟨_,rfl⟩
  have hsm:Qas.f x0=some (e,s):=by unfold Qas.f;rw[if_pos h0.1,if_pos h0.2,he,hs]
  have hG:Good e s:=⟨by omega,by omega,by omega,by omega⟩
  have he2:e=12∨e=13:=by omega
  refine .inr ⟨by omega,h3,h1,e,s,hsm,he2,?_⟩
  have hsz:=Qvf hG.1 hG.2.1
  have hle:szN e≤10000:=by rcases he2 with h|h<;>(rw[h];decide)
  have hpw:((2^e.toNat:Nat):Int)=szN e:=by unfold szN;push_cast;rfl
  refine spt_all hG h1 _ (hb.app (fun x hx=>by have:=List.eq_of_mem_replicate hx;omega)) ?_ hle _ (Nat.le_refl _)
  rw[List.length_append,List.length_replicate]
  omega
end Go.Proofs.YtnnofopfbeklbaaGreat.CodecP
end
section
namespace Go.Proofs.YtnnofopfbeklbaaGreat.Pure
open Go.RowKit Go.Proofs.YtnnofopfbeklbaaGreat.C Go.Proofs.YtnnofopfbeklbaaGreat.CodecP Go.Proofs.YtnnofopfbeklbaaGreatW.PrintWords Go.Proofs.YtnnofopfbeklbaaGreatW.PrintLast Go.Proofs.YtnnofopfbeklbaaGreatW.PrintMore Go.Proofs.YtnnofopfbeklbaaGreat.Open
theorem wfp_u8{x:Int}(h1:(Lit.int .u8 x).wf=true):0≤x∧x<256:=by
 simp only[Lit.wf,IntKind.min,IntKind.max,IntKind.signed,IntKind.bits,Bool.and_eq_true,decide_eq_true_eq]at h1
 simp at h1
 omega
theorem wfp_u32{x:Int}(h1:(Lit.int .u32 x).wf=true):0≤x∧x<4294967296:=by
 simp only[Lit.wf,IntKind.min,IntKind.max,IntKind.signed,IntKind.bits,Bool.and_eq_true,decide_eq_true_eq]at h1
 simp at h1
 omega
theorem SegmentParses:Qar.Pure:=by
 intro x0 x1 l x3 h0 h1 hl h3
 exact⟨100000000,if_pos (sp_all x0 x1 x3 l (wfp_u8 h0) (wfp_u32 h1) (wfp_u8 h3) (fun x hx=>wfp_u8 (hl.2 x hx)))⟩
end Go.Proofs.YtnnofopfbeklbaaGreat.Pure
end
