/- Merged texts. -/
import Derived.Test.YteaocbonofboeaaGreatMA25
import Derived.Test.YteaocbonofboeaaGreatMA23
import Derived.Test.YteaocbonofboeaaGreatMA05
import Derived.Test.YteaocbonofboeaaGreatMA04
import Derived.Test.YteaocbonofboeaaGreatMA21
import Derived.Test.YteaocbonofboeaaGreatMA10
import Derived.Test.YteaocbonofboeaaGreatMA20
import Derived.Test.YteaocbonofboeaaGreatMA15
import Derived.Test.YteaocbonofboeaaGreatMA11
set_option linter.unusedVariables false
set_option linter.unusedSimpArgs false
set_option maxHeartbeats 8000000
set_option maxRecDepth 100000
section
namespace Go.Proofs.YteaocbonofboeaaGreat.C
open Go.RowKit Go.Proofs.YteaocbonofboeaaGreatW.PrintWords Go.Proofs.YteaocbonofboeaaGreatW.PrintLast Go.Proofs.YteaocbonofboeaaGreatW.PrintMore Go.Proofs.YteaocbonofboeaaGreat.Open
def Qbc.Pure:Prop:=∀(x0:S28) (x1:List (S37)),OG28 x0→(x1.length*48≤140737488351232∧∀z2∈x1,OG37 z2)→∃k,Qbc.f k x0.f0 x0.f1 x1=some true
end Go.Proofs.YteaocbonofboeaaGreat.C
end
section
namespace Go.Proofs.YteaocbonofboeaaGreat.CodecP
open Go.RowKit Go.Proofs.YteaocbonofboeaaGreat.C Go.Proofs.YteaocbonofboeaaGreatW.PrintWords Go.Proofs.YteaocbonofboeaaGreatW.PrintLast Go.Proofs.YteaocbonofboeaaGreatW.PrintMore
def cutP(sg:Int):Int→Int→List Int→List Ck
 | _,_,[]=>[]
 | fr,at_,x :: l=>if x=0 then(sg,fr,at_) :: cutP sg (at_+1) (at_+1) l else cutP sg fr (at_+1) l
theorem cutA_step(n sg at_ fr:Nat)(x:Int)(l:List Int)(hs:sg<1000000000000):(cutA (ksOf n sg at_ fr) (x :: l)).1=(if x=0 then [((sg:Int),(fr:Int),(at_:Int))]else [])++(cutA (if at_+1=n then ksOf n (sg+1) 0 0 else ksOf n sg (at_+1) (if x=0 then at_+1 else fr)) l).1:=by
 rw[← cutN_nat n sg at_ fr x hs];rfl
theorem cutA_piece(n sg:Nat)(hs:sg<1000000000000)(rest:List Int):∀(p:List Int) (at_ fr:Nat),at_<n→at_+p.length=n→(cutA (ksOf n sg at_ fr) (p++rest)).1=cutP sg fr at_ p++(cutA (ksOf n (sg+1) 0 0) rest).1
 | [],at_,fr,h1,h2=>by simp at h2;omega
 | x :: p,at_,fr,h1,h2=>by
  simp only[List.length_cons]at h2;rw[List.cons_append,cutA_step n sg at_ fr x _ hs];unfold cutP
  by_cases hw:at_+1=n
  ·rw[if_pos hw];obtain rfl:p=[]:=List.eq_nil_of_length_eq_zero (by omega)
   by_cases hx:x=0
   ·rw[if_pos hx,if_pos hx];rfl
   ·rw[if_neg hx,if_neg hx];rfl
  ·rw[if_neg hw]
   by_cases hx:x=0
   ·rw[if_pos hx,if_pos hx,if_pos hx,cutA_piece n sg hs rest p (at_+1) (at_+1) (by omega) (by omega)];rfl
   ·rw[if_neg hx,if_neg hx,if_neg hx,cutA_piece n sg hs rest p (at_+1) fr (by omega) (by omega)];rfl
theorem seal_formI{b:List Int}(hb:Bytes b):∃z,Qnz b=z++[0]∧Free z:=⟨_,rfl,(Qyc _ _ (Nat.le_refl _) (hb.app (Qyi 8 _))).1⟩
theorem head_sealI{e s:Int}(hG:Good e s){n:Int}(h0:0≤n)(h1:n<s):∃z,Qoe e s n=z++[0]∧Free z:=by
 obtain⟨a,b,c,d⟩:=hG;refine seal_formI (Bytes.app (Bytes.app ?_ (Qym s (by omega) (by omega))) (Qym n h0 (by omega)));intro x hx;simp at hx;omega
theorem cutP_free(sg:Int):∀(z:List Int) (fr at_:Int),Free z→cutP sg fr at_ z=[]
 | [],_,_,_=>rfl
 | x :: z,fr,at_,h=>by
  rw[cutP,if_neg (h x (List.mem_cons_self ..))];exact cutP_free sg z fr (at_+1) (fun y hy=>h y (List.mem_cons_of_mem _ hy))
theorem cutP_chunk(sg:Int)(R:List Int):∀(z:List Int) (fr at_:Int),Free z→cutP sg fr at_ (z++0 :: R)=(sg,fr,at_+(z.length:Int)) :: cutP sg (at_+(z.length:Int)+1) (at_+(z.length:Int)+1) R
 | [],fr,at_,_=>by
  rw[List.nil_append,cutP,if_pos rfl];simp
 | x :: z,fr,at_,h=>by
  rw[List.cons_append,cutP,if_neg (h x (List.mem_cons_self ..)),cutP_chunk sg R z fr (at_+1) (fun y hy=>h y (List.mem_cons_of_mem _ hy)),List.length_cons,show at_+1+(z.length:Int)=at_+((z.length+1:Nat):Int)by omega]
theorem recO_rec{z:List Int}{r:Rec}(h:okR r)(e:z++[0]=Qxd r):recO z=some r:=by
 unfold recO;have g:∃r,okR r∧z++[0]=Qxd r:=⟨r,h,e⟩;rw[dif_pos g];have c:=g.choose_spec;have:=Qyr (x:=[]) (y:=[]) c.1 h (by rw[List.append_nil,List.append_nil,← c.2,e]);rw[this.1]
theorem recO_no{z:List Int}(h:∀r,okR r→z++[0]≠Qxd r):recO z=none:=by
 unfold recO;rw[dif_neg (fun ⟨r,a,b⟩=>h r a b)]
theorem frame_form{r:Rec}(h:okR r):∃z,Qxd r=z++[0]∧Free z:=seal_formI (Qyq h)
theorem head_no{e s n:Int}(he:0≤e∧e<256)(hs:0≤s∧s<4294967296)(hn:0≤n∧n<4294967296){r:Rec}(h:okR r):Qoe e s n≠Qxd r:=by
 intro e1;have hb:Bytes ([1,2,e]++vput 9 s++vput 9 n):=by
  refine Bytes.app (Bytes.app ?_ (Qym s (by omega) (by omega))) (Qym n (by omega) (by omega));intro x hx;simp at hx;omega
 have h1:=(Qyj (x:=[]) (y:=[]) hb (Qyq h) (by rw[List.append_nil,List.append_nil];exact e1)).1;unfold Qna at h1;simp only[List.cons_append,List.nil_append,List.append_assoc]at h1;have h2:=(List.cons.inj h1).1;split at h2<;>omega
theorem fndC_at{L:List Int}{n sg f:Nat}{z Y:List Int}(h:L.drop (sg*n+f)=z++Y):fndC L n ((sg:Int),(f:Int),(f:Int)+(z.length:Int))=fndO (recO z) (sg:Int) (f:Int) ((f:Int)+(z.length:Int)):=by
 unfold fndC bytesC;dsimp only;rw[Int.toNat_natCast,Int.toNat_natCast,show((f:Int)+(z.length:Int)-(f:Int)).toNat=z.length by omega,h,List.take_left]
def fdG(sg:Nat):Nat→List Rec→List C.Fd
 | _,[]=>[]
 | off,r :: g=>(⟨r,(sg:Int),(off:Int),((Qxd r).length:Int)⟩:C.Fd) :: fdG sg (off+(Qxd r).length) g
theorem fdG_snoc(sg:Nat):∀(g:List Rec) (off:Nat) (r:Rec),fdG sg off (g++[r])=fdG sg off g++[(⟨r,(sg:Int),((off+(g.flatMap Qxd).length:Nat):Int),((Qxd r).length:Int)⟩:C.Fd)]
 | [],off,r=>by simp[fdG]
 | x :: g,off,r=>by
  rw[List.cons_append,fdG,fdG,fdG_snoc sg g,List.cons_append,List.flatMap_cons,List.length_append,Nat.add_assoc]
def fdP(e s:Int):Nat→List (List Rec)→List C.Fd
 | _,[]=>[]
 | sg,g :: ps=>fdG sg (Qoe e s (sg:Int)).length g++fdP e s (sg+1) ps
theorem cut_frames(L:List Int)(n sg:Nat):∀(g:List Rec) (T:List Int) (a:Nat) (Y:List Int),(∀r∈g,okR r)→L.drop (sg*n+a)=(g.flatMap Qxd++T)++Y →
  (cutP (sg:Int) (a:Int) (a:Int) (g.flatMap Qxd++T)).flatMap (fndC L n)=fdG sg a g++(cutP (sg:Int) ((a+(g.flatMap Qxd).length:Nat):Int) ((a+(g.flatMap Qxd).length:Nat):Int) T).flatMap (fndC L n)
 | [],T,a,Y,_,_=>by simp[fdG]
 | r :: g,T,a,Y,hg,hL=>by
  have hr:=hg r (List.mem_cons_self ..);obtain⟨z,hz,hf⟩:=frame_form hr;have hlen:(Qxd r).length=z.length+1:=by rw[hz,List.length_append];rfl
  have hL':L.drop (sg*n+a)=z++(0 :: ((g.flatMap Qxd++T)++Y)):=by
   rw[hL,List.flatMap_cons,hz];simp only[List.append_assoc,List.singleton_append,List.cons_append,List.nil_append]
  have hnext:L.drop (sg*n+(a+z.length+1))=(g.flatMap Qxd++T)++Y:=by
   rw[show sg*n+(a+z.length+1)=sg*n+a+(z.length+1)by omega,← List.drop_drop,hL',show z.length+1=(z++[0]).length by simp,show z++(0 :: ((g.flatMap Qxd++T)++Y))=(z++[0])++((g.flatMap Qxd++T)++Y)by simp,List.drop_left]
  have ih:=cut_frames L n sg g T (a+z.length+1) Y (fun x hx=>hg x (List.mem_cons_of_mem _ hx)) hnext;have hs:(r :: g).flatMap Qxd++T=z++0 :: (g.flatMap Qxd++T):=by
   rw[List.flatMap_cons,hz];simp only[List.append_assoc,List.singleton_append,List.cons_append,List.nil_append]
  rw[hs,cutP_chunk _ _ z _ _ hf,List.flatMap_cons,fndC_at hL',recO_rec hr hz.symm,show(a:Int)+(z.length:Int)+1=((a+z.length+1:Nat):Int)by omega,ih];rw[fdG,hlen,show a+(z.length+1)=a+z.length+1 by omega,List.flatMap_cons,List.length_append,hlen,show a+(z.length+1+(g.flatMap Qxd).length)=a+z.length+1+(g.flatMap Qxd).length by omega];unfold fndO;rw[show(a:Int)+(z.length:Int)-(a:Int)+1=((z.length+1:Nat):Int)by omega];rfl
theorem seg_tails(e s n:Int)(g:List Rec)(b:Bool):∃(m:Nat) (F:List Int),(F=[]∨∃u l,F=Qqn u l)∧segB e s n g b=Qoe e s n++(g.flatMap Qxd++(F++List.replicate m 255)):=by
 unfold segB tailB;rw[part_frames]
 cases b with
 | true =>
  rw[if_pos rfl];generalize (szN e).toNat-(Qoe e s n++g.flatMap Qxd++Qqn (Qqu (partB e s n g)) (Qps (partB e s n g).2.2)).length=m;exact⟨m,Qqn (Qqu (partB e s n g)) (Qps (partB e s n g).2.2),.inr ⟨_,_,rfl⟩,by simp only[List.append_assoc]⟩
 | false =>
  rw[if_neg (by simp),List.append_nil];generalize (szN e).toNat-(Qoe e s n++g.flatMap Qxd).length=m;exact⟨m,[],.inl rfl,by simp only[List.append_assoc,List.nil_append]⟩
theorem rep_free(m:Nat):Free (List.replicate m (255:Int)):=fun x hx=>by have:=List.eq_of_mem_replicate hx;omega
theorem foot_form(u:Int)(l:List Ent):∃z,Qqn u l=z++[0]∧Free z:=by
 refine seal_formI ?_;refine Bytes.app (Bytes.app (Bytes.app (Bytes.app ?_ (Qyi 4 _)) (Qyi 4 _)) (Qyt _ Qys l)) (Qyt _ (fun x=>Qyi 8 x) _);intro y hy
 rcases List.mem_singleton.1 hy with rfl
 omega
theorem cut_seg{e s:Int}(hG:Good e s)(m:Nat)(hm:(m:Int)<s)(g:List Rec)(hg:∀r∈g,okR r)(b:Bool)(L:List Int)(n:Nat)(Y:List Int)(h:L.drop (m*n)=segB e s (m:Int) g b++Y) :
  (cutP (m:Int) 0 0 (segB e s (m:Int) g b)).flatMap (fndC L n)=fdG m (Qoe e s (m:Int)).length g:=by
 obtain⟨q,F,hF,hseg⟩:=seg_tails e s (m:Int) g b;obtain⟨g1,g2,g3,g4⟩:=hG;obtain⟨zh,hzh,hfh⟩:=head_sealI ⟨g1,g2,g3,g4⟩ (n:=(m:Int)) (by omega) hm;have hlen:(Qoe e s (m:Int)).length=zh.length+1:=by rw[hzh,List.length_append];rfl
 have hhd:∀r,okR r→zh++[0]≠Qxd r:=fun r hr=>by rw[← hzh];exact head_no (by omega) (by omega) (by omega) hr
 have h0:L.drop (m*n+0)=zh++(0 :: ((g.flatMap Qxd++(F++List.replicate q 255))++Y)):=by
  rw[Nat.add_zero,h,hseg,hzh];simp only[List.append_assoc,List.singleton_append,List.cons_append,List.nil_append]
 have h1:L.drop (m*n+(zh.length+1))=(g.flatMap Qxd++(F++List.replicate q 255))++Y:=by
  rw[← List.drop_drop,← Nat.add_zero (m*n),h0,show zh.length+1=(zh++[0]).length by simp,show zh++(0 :: ((g.flatMap Qxd++(F++List.replicate q 255))++Y))=(zh++[0])++((g.flatMap Qxd++(F++List.replicate q 255))++Y)by simp,List.drop_left]
 have hs:segB e s (m:Int) g b=zh++0 :: (g.flatMap Qxd++(F++List.replicate q 255)):=by
  rw[hseg,hzh];simp only[List.append_assoc,List.singleton_append,List.cons_append,List.nil_append]
 have hc:=fndC_at (f:=0) h0;rw[hs,cutP_chunk _ _ zh _ _ hfh,List.flatMap_cons];have hc':fndC L n ((m:Int),(0:Int),(0:Int)+(zh.length:Int))=[]:=by
  refine Eq.trans hc ?_;rw[recO_no hhd];rfl
 rw[hc',List.nil_append,show(0:Int)+(zh.length:Int)+1=((zh.length+1:Nat):Int)by omega,cut_frames L n m g _ _ Y hg h1,hlen];have hend:(cutP (m:Int) ((zh.length+1+(g.flatMap Qxd).length:Nat):Int) ((zh.length+1+(g.flatMap Qxd).length:Nat):Int) (F++List.replicate q 255)).flatMap (fndC L n)=[]:=by
  rcases hF with rfl |⟨u,l,rfl⟩
  ·rw[List.nil_append,cutP_free _ _ _ _ (rep_free q)];rfl
  ·obtain⟨zf,hzf,hff⟩:=foot_form u l;have hs2:Qqn u l++List.replicate q 255=zf++0 :: List.replicate q 255:=by
    rw[hzf];simp only[List.append_assoc,List.singleton_append,List.cons_append,List.nil_append]
   have h2:L.drop (m*n+(zh.length+1+(g.flatMap Qxd).length))=zf++(0 :: (List.replicate q 255++Y)):=by
    rw[← Nat.add_assoc,← List.drop_drop,h1,hs2];rw[show g.flatMap Qxd++(zf++0 :: List.replicate q 255)++Y=g.flatMap Qxd++(zf++(0 :: (List.replicate q 255++Y)))by simp,List.drop_left]
   rw[hs2,cutP_chunk _ _ zf _ _ hff,List.flatMap_cons,fndC_at h2,cutP_free _ _ _ _ (rep_free q),recO_no (fun r hr=>by rw[← hzf];intro e1;exact Qyu u l [] r [] hr (by rw[List.append_nil,List.append_nil];exact e1))];rfl
 rw[hend,List.append_nil]
theorem imgP_cons(e s:Int)(n:Int)(g:List Rec)(t:List (List Rec)):∃b,imgP e s n (g :: t)=segB e s n g b++imgP e s (n+1) t:=by
 cases t with
 | nil=>exact⟨false,by simp[imgP]⟩
 | cons h t=>exact⟨true,rfl⟩
theorem cut_img{e s:Int}(hG:Good e s)(L:List Int):∀(ps:List (List Rec)) (m:Nat),m≤1000000→AllG e s (m:Int) ps→(∀g∈ps,∀r∈g,okR r)→L.drop (m*(szN e).toNat)=imgP e s (m:Int) ps →
  (cutA (ksOf (szN e).toNat m 0 0) (imgP e s (m:Int) ps)).1.flatMap (fndC L (szN e).toNat)=fdP e s m ps
 | [],m,_,_,_,_=>by simp[imgP,cutA,fdP]
 | g :: t,m,hm,hA,hr,hL=>by
  obtain⟨hA1,hA2⟩:=hA;have hsz:=Qvu hG.1 hG.2.1;obtain⟨b,hb⟩:=imgP_cons e s (m:Int) g t;have hls:=seg_len hG hA1 b;have hms:(m:Int)<s:=hA1.2.1;have hs6:=hG.2.2.2;have h1:=cut_seg hG m hms g (hr g (List.mem_cons_self ..)) b L (szN e).toNat (imgP e s ((m:Int)+1) t) (by rw[hL,hb]);have hpc:=cutA_piece (szN e).toNat m (by omega) (imgP e s ((m:Int)+1) t) (segB e s (m:Int) g b) 0 0 (by omega) (by omega);have h2:L.drop ((m+1)*(szN e).toNat)=imgP e s ((m:Int)+1) t:=by
   rw[Nat.succ_mul,← List.drop_drop,hL,hb,← hls,List.drop_left]
  have ih:=cut_img hG L t (m+1) (by omega) hA2 (fun x hx=>hr x (List.mem_cons_of_mem _ hx)) h2;rw[hb,hpc,List.flatMap_append];unfold fdP;have h1':(cutP (m:Int) ((0:Nat):Int) ((0:Nat):Int) (segB e s (m:Int) g b)).flatMap (fndC L (szN e).toNat)=fdG m (Qoe e s (m:Int)).length g:=h1;rw[h1'];exact congrArg _ ih
theorem allF_img{e s:Int}(hG:Good e s)(ps:List (List Rec))(hA:AllG e s 0 ps)(hr:∀g∈ps,∀r∈g,okR r):allF (szN e) (imgP e s 0 ps)=fdP e s 0 ps:=by
 have hsz:=Qvu hG.1 hG.2.1;have hn:nOf (szN e)=(szN e).toNat:=by unfold nOf;rw[if_pos (by omega)]
 unfold allF;rw[hn];exact cut_img hG (imgP e s 0 ps) ps 0 (by omega) hA hr (by simp)
def zipF:List Plc→List Rec→List C.Fd
 | p :: ps,r :: l=>(⟨r,p.f0,p.f1,((Qxd r).length:Int)⟩:C.Fd) :: zipF ps l
 | _,_=>[]
theorem fdP_places(e s:Int)(into:List Int):∀(rs cur:List Rec) (i m:Nat),cur≠[]→1≤i→rd into ((i:Int)-1)=(m:Int)→StepsI into rs.length i (m:Int)→(cur.flatMap Qxd).length+(rs.flatMap Qxd).length≤1000000000 →
  fdP e s m (partsS into i rs cur)=fdG m (Qoe e s (m:Int)).length cur++zipF (Qxr e s (some (m:Int)) (Qvm e s (m:Int)+((cur.flatMap Qxd).length:Int)) (into.drop i) (rs.map fsz)) rs
 | [],cur,i,m,hc,hi,hp,hst,hb=>by
  rw[partsS,fdP,fdP,List.append_nil]
  cases into.drop i<;>simp[Qxr,zipF]
 | r :: rs,cur,i,m,hc,hi,hp,hst,hb=>by
  obtain⟨hi2,hst2⟩:=hst;rw[List.flatMap_cons,List.length_append]at hb;have hh:=Qvo e s (m:Int);rw[partsS,List.drop_eq_getElem_cons hi2,List.map_cons,Qxr,zipF,← rd_get hi2]
  rcases hst2 with⟨hm,hst3⟩ |⟨hm,hst3⟩
  ·rw[if_pos (by rw[hm,hp]),hm,if_pos rfl];have hb2:((cur++[r]).flatMap Qxd).length=(cur.flatMap Qxd).length+(Qxd r).length:=by simp
   have ih:=fdP_places e s into rs (cur++[r]) (i+1) m (by simp) (by omega) (by rw[show((i+1:Nat):Int)-1=(i:Int)by omega];exact hm) hst3 (by rw[hb2];omega);rw[ih,fdG_snoc,List.append_assoc,hb2];have hN:(Qvm e s (m:Int)+((cur.flatMap Qxd).length:Int))%4294967296=(((Qoe e s (m:Int)).length+(cur.flatMap Qxd).length:Nat):Int):=by
    have:Qvm e s (m:Int)=((Qoe e s (m:Int)).length:Int):=rfl;omega
   dsimp only;rw[hN,show Qvm e s (m:Int)+(((cur.flatMap Qxd).length+(Qxd r).length:Nat):Int)=Qvm e s (m:Int)+((cur.flatMap Qxd).length:Int)+fsz r by unfold fsz;omega];rfl
  ·rw[if_neg (by rw[hm,hp];omega),hm,if_neg (by intro h;have:=Option.some.inj h;omega)];have hh2:=Qvo e s ((m:Int)+1);have ih:=fdP_places e s into rs [r] (i+1) (m+1) (by simp) (by omega) (by rw[show((i+1:Nat):Int)-1=(i:Int)by omega];exact hm) hst3 (by rw[show [r].flatMap Qxd=Qxd r by simp];omega);rw[fdP,ih];have hN:Qvm e s ((m:Int)+1)%4294967296=((Qoe e s ((m+1:Nat):Int)).length:Int):=by
    have:Qvm e s ((m:Int)+1)=((Qoe e s ((m+1:Nat):Int)).length:Int):=rfl;omega
   dsimp only;rw[hN,fdG,fdG,show([r].flatMap Qxd)=Qxd r by simp];rfl
theorem img_places{e s:Int}{into:List Int}{l:List Rec}(hl:l≠[]→rd into 0=0∧StepsI into (l.length-1) 1 0)(hil:into.length=l.length)(hb:(l.flatMap Qxd).length≤1000000000) :
  fdP e s 0 (partsOf into l)=zipF (Qxr e s none 0 into (l.map fsz)) l:=by
 cases l with
 | nil=>cases into<;>simp[partsOf,fdP,zipF,Qxr]
 | cons r rs =>
  obtain⟨h0,hst⟩:=hl (by simp);have hi:0<into.length:=by rw[hil];simp
  have hh:=Qvo e s 0;rw[List.flatMap_cons,List.length_append]at hb;have h1:=fdP_places e s into rs [r] 1 0 (by simp) (by omega) (by simpa using h0) (by simpa using hst) (by rw[show [r].flatMap Qxd=Qxd r by simp];omega);unfold partsOf;rw[h1];have hc:into=0 :: into.drop 1:=by
   have:=List.drop_eq_getElem_cons hi;rw[List.drop_zero,← rd_get hi]at this;rw[show((0:Nat):Int)=0 from rfl,h0]at this;exact this
  rw[List.map_cons];rw[hc,Qxr,zipF,if_neg (by simp)];have hN:Qvm e s 0%4294967296=((Qoe e s ((0:Nat):Int)).length:Int):=by
   have:Qvm e s 0=((Qoe e s ((0:Nat):Int)).length:Int):=rfl;omega
  dsimp only;rw[hN,fdG,fdG,show([r].flatMap Qxd)=Qxd r by simp];rfl
theorem zip_places(e s:Int):∀(l:List Rec) (into:List Int) (prev:Option Int) (at_:Int),into.length=l.length→(Qxr e s prev at_ into (l.map fsz)).length=l.length
 | [],into,prev,at_,h=>by cases into<;>simp[Qxr]
 | r :: l,[],prev,at_,h=>by simp at h
 | r :: l,x :: into,prev,at_,h=>by
  rw[List.map_cons,Qxr,List.length_cons,zip_places e s l into _ _ (by simpa using h),List.length_cons]
theorem zipF_at:∀(ps:List Plc) (l:List Rec),ps.length=l.length→(zipF ps l).length=l.length∧∀j (h:j<(zipF ps l).length) (h1:j<ps.length) (h2:j<l.length),(zipF ps l)[j]=(⟨l[j],ps[j].f0,ps[j].f1,((Qxd l[j]).length:Int)⟩:C.Fd)
 | [],[],_=>⟨rfl,fun j h=>by simp[zipF]at h⟩
 | [],_ :: _,h=>by simp at h
 | _ :: _,[],h=>by simp at h
 | p :: ps,r :: l,h=>by
  obtain⟨i1,i2⟩:=zipF_at ps l (by simpa using h);refine⟨by simp[zipF,i1],fun j h h1 h2=>?_⟩
  cases j with
  | zero=>rfl
  | succ j=>exact i2 j (by simpa [zipF]using h) (by simpa using h1) (by simpa using h2)
theorem rd_Fd(X:List C.Fd)(j:Nat)(hj:j<X.length):Qka X (j:Int)=X[j]:=by
 unfold Qka;rw[Int.toNat_natCast,List.getD_eq_getElem?_getD,List.getElem?_eq_getElem hj];rfl
theorem recs_l0(x:List C.Fd)(hx:x.length≤1000000):∀(d j k:Nat) (out:List Rec),j+d=x.length→out.length+d≤1000000→Qdc.l0 (k+d+1) out x (x.length:Int) (j:Int)=some (out++(x.drop j).map (fun f=>f.f0))
 | 0,j,k,out,hd,ho=>by
  unfold Qdc.l0;rw[if_neg (by omega),List.drop_of_length_le (by omega)];simp
 | d+1,j,k,out,hd,ho=>by
  have hj:j<x.length:=by omega
  unfold Qdc.l0;rw[if_pos (by omega),if_pos (by omega),if_pos (by omega),if_pos (by omega),Quy j (by omega),show k+(d+1)=k+d+1 by omega,rd_Fd x j hj];refine Eq.trans (recs_l0 x hx d (j+1) k (out++[x[j].f0]) (by omega) (by simp only[List.length_append,List.length_singleton];omega)) ?_;rw[List.drop_eq_getElem_cons hj,List.map_cons,List.append_assoc,List.singleton_append]
theorem recs_is(x:List C.Fd)(hx:x.length≤1000000)(k:Nat)(hk:x.length+1≤k):Qdc.f k x=some (x.map (fun f=>f.f0)):=by
 unfold Qdc.f;have h:=recs_l0 x hx x.length 0 (k-x.length-1) [] (by omega) qq_38;rw[show k-x.length-1+x.length+1=k by omega,List.drop_zero,List.nil_append]at h;exact h
theorem rsame_l0(a:List Rec)(hl:a.length≤1000000):∀(d j k:Nat),j+d=a.length→Qcd.l0 (k+d+1) a a (a.length:Int) (j:Int)=some true
 | 0,j,k,hd=>by
  unfold Qcd.l0;rw[if_neg (by omega)]
 | d+1,j,k,hd=>by
  have hj:j<a.length:=by omega
  unfold Qcd.l0;rw[if_pos (by omega),if_pos (by omega),if_pos (by omega),if_pos (by omega),if_neg (by simp),Quy j (by omega),show k+(d+1)=k+d+1 by omega];exact rsame_l0 a hl d (j+1) k (by omega)
theorem rsame_is(a:List Rec)(hl:a.length≤1000000)(k:Nat)(hk:a.length+1≤k):Qcd.f k a a=some true:=by
 unfold Qcd.f;rw[if_pos rfl];have h:=rsame_l0 a hl a.length 0 (k-a.length-1) (by omega);rw[show k-a.length-1+a.length+1=k by omega]at h;exact h
theorem zipF_recs:∀(ps:List Plc) (l:List Rec),ps.length=l.length→(zipF ps l).map (fun f=>f.f0)=l
 | [],[],_=>rfl
 | [],_ :: _,h=>by simp at h
 | _ :: _,[],h=>by simp at h
 | p :: ps,r :: l,h=>by
  rw[zipF,List.map_cons,zipF_recs ps l (by simpa using h)]
theorem AllG.lenJ{e s:Int}:∀ {ps:List (List Rec)} {n:Int},0≤n→n≤s→AllG e s n ps→(ps.length:Int)+n≤s
 | [],n,_,h,_=>by simpa using h
 | g :: t,n,h0,_,h=>by
  have:=AllG.lenJ (ps:=t) (n:=n+1) (by omega) (by have:=h.1.2.1;omega) h.2;rw[List.length_cons];omega
def eqR(a b:Rec):Bool:=(a.f0 == b.f0 && (a.f1 == b.f1 && (a.f2.toList == b.f2.toList && (a.f3.toList == b.f3.toList))))
theorem eqR_self(a:Rec):eqR a a=true:=by unfold eqR;simp
def subR:List Rec→List Rec→Bool
 | [],_=>true
 | _ :: _,[]=>false
 | p :: ps,a :: as_=>if eqR p a=true then subR ps as_ else subR (p :: ps) as_
theorem subR_nil(l:List Rec):subR [] l=true:=by cases l<;>rfl
theorem subR_of:∀(as_ ps:List Rec),ps.Sublist as_→subR ps as_=true
 | as_,[],_=>subR_nil as_
 | [],p :: ps,h=>by cases h
 | a :: as_,p :: ps,h=>by
  rw[subR]
  by_cases h1:eqR p a=true
  ·rw[if_pos h1];exact subR_of as_ ps h.of_cons_cons
  ·rw[if_neg h1]
   cases h with
   | cons _ h=>exact subR_of as_ (p :: ps) h
   | cons_cons _ h=>exact absurd (eqR_self _) h1
theorem idx_l0(p:Rec)(ps A:List Rec)(hl:A.length≤1000000):∀(d j k:Nat),j+d=A.length →
  ∃t:Int,Qaa.l0 (k+d+1) A (A.length:Int) (j:Int) p.f0 p.f1 p.f2 p.f3=some t∧((t<0∧subR (p :: ps) (A.drop j)=false)∨∃i:Nat,t=(i:Int)∧i<A.length∧subR (p :: ps) (A.drop j)=subR ps (A.drop (i+1)))
 | 0,j,k,hd=>by
  unfold Qaa.l0;rw[if_neg (by omega),List.drop_of_length_le (by omega)];exact⟨-1,rfl,.inl ⟨by omega,rfl⟩⟩
 | d+1,j,k,hd=>by
  have hj:j<A.length:=by omega
  rw[List.drop_eq_getElem_cons hj,subR];unfold Qaa.l0;rw[if_pos (by omega),if_pos (by omega),if_pos (by omega),rdR A j hj]
  by_cases h:eqR p A[j]=true
  ·have h':(p.f0 == A[j].f0 && (p.f1 == A[j].f1 && (p.f2.toList == A[j].f2.toList && (p.f3.toList == A[j].f3.toList))))=true:=h;rw[if_pos h',if_pos h];exact⟨_,rfl,.inr ⟨j,rfl,hj,rfl⟩⟩
  ·have h':¬(p.f0 == A[j].f0 && (p.f1 == A[j].f1 && (p.f2.toList == A[j].f2.toList && (p.f3.toList == A[j].f3.toList))))=true:=h;rw[if_neg h',if_neg h,Quy j (by omega),show k+(d+1)=k+d+1 by omega];exact idx_l0 p ps A hl d (j+1) k (by omega)
theorem sub_l0(P:List Rec)(hP:P.length≤1000000):∀(d j k:Nat) (A:List Rec),j+d=P.length→A.length≤1000000→1000010≤k→Qau.l0 (k+d+1) A P (P.length:Int) (j:Int)=some (subR (P.drop j) A)
 | 0,j,k,A,hd,hA,hk=>by
  unfold Qau.l0;rw[if_neg (by omega),List.drop_of_length_le (by omega),subR_nil]
 | d+1,j,k,A,hd,hA,hk=>by
  have hj:j<P.length:=by omega
  obtain⟨t,h1,h2⟩:=idx_l0 P[j] (P.drop (j+1)) A hA A.length 0 (k+(d+1)-A.length-1) (by omega);rw[show k+(d+1)-A.length-1+A.length+1=k+(d+1)by omega]at h1;have h1':Qaa.f (k+(d+1)) A P[j].f0 P[j].f1 P[j].f2 P[j].f3=some t:=h1;rw[List.drop_zero]at h2;rw[List.drop_eq_getElem_cons hj];unfold Qau.l0;rw[if_pos (by omega),if_pos (by omega),if_pos (by omega),rdR P j hj,h1',Option.bind_some]
  rcases h2 with⟨h3,h4⟩ |⟨i,rfl,h3,h4⟩
  ·rw[if_pos h3,h4]
  ·have hx:=sub_l0 P hP d (j+1) k (A.drop (i+1)) (by omega) qq_30 hk;rw[if_neg (by omega),Quy i (by omega),if_pos (by omega),if_pos (by omega),Quy j (by omega),Int.toNat_natCast,show k+(d+1)=k+d+1 by omega,h4];exact hx
theorem sub_is(P A:List Rec)(hP:P.length≤1000000)(hA:A.length≤1000000)(k:Nat)(hk:2000020≤k):Qau.f k P A=some (subR P A):=by
 unfold Qau.f;have h:=sub_l0 P hP P.length 0 (k-P.length-1) A (by omega) hA (by omega);rw[show k-P.length-1+P.length+1=k by omega,List.drop_zero]at h;exact h
theorem rsub_l0(P A:List Rec)(hP:P.length≤1000000)(hA:A.length≤1000000):∀(d j k c:Nat),j+d=A.length→c≤P.length→Qce.l0 (k+d+1) P (c:Int) A (A.length:Int) (j:Int)=some (subR (P.drop c) (A.drop j))
 | 0,j,k,c,hd,hc=>by
  unfold Qce.l0;rw[if_neg (by omega),List.drop_of_length_le (l:=A) (by omega)]
  by_cases h:c=P.length
  ·rw[List.drop_of_length_le (by omega),subR_nil,h];simp
  ·rw[List.drop_eq_getElem_cons (show c<P.length by omega),subR]
   congr 1
   exact beq_eq_false_iff_ne.2 (by omega)
 | d+1,j,k,c,hd,hc=>by
  have hj:j<A.length:=by omega
  unfold Qce.l0;rw[if_pos (by omega),if_pos (by omega),if_pos (by omega),Quy j (by omega),show k+(d+1)=k+d+1 by omega]
  by_cases h:c<P.length
  ·rw[if_pos (by omega),if_pos (by omega),rdR P c h,rdR A j hj,List.drop_eq_getElem_cons h,List.drop_eq_getElem_cons hj,subR]
   by_cases g:eqR P[c] A[j]=true
   ·have g':(P[c].f0 == A[j].f0 && (P[c].f1 == A[j].f1 && (P[c].f2.toList == A[j].f2.toList && (P[c].f3.toList == A[j].f3.toList))))=true:=g;rw[if_pos g',if_pos g,Quy c (by omega)];exact rsub_l0 P A hP hA d (j+1) k (c+1) (by omega) (by omega)
   ·have g':¬(P[c].f0 == A[j].f0 && (P[c].f1 == A[j].f1 && (P[c].f2.toList == A[j].f2.toList && (P[c].f3.toList == A[j].f3.toList))))=true:=g;rw[if_neg g',if_neg g,← List.drop_eq_getElem_cons h];exact rsub_l0 P A hP hA d (j+1) k c (by omega) hc
  ·have hx:=rsub_l0 P A hP hA d (j+1) k c (by omega) hc;rw[if_neg (by omega),hx,List.drop_of_length_le (by omega),subR_nil,subR_nil]
theorem rsub_is(P A:List Rec)(hP:P.length≤1000000)(hA:A.length≤1000000)(k:Nat)(hk:2000020≤k):Qce.f k P A=some (subR P A):=by
 unfold Qce.f;have h:=rsub_l0 P A hP hA A.length 0 (k-A.length-1) 0 (by omega) (by omega);rw[show k-A.length-1+A.length+1=k by omega,List.drop_zero,List.drop_zero]at h;exact h
theorem lives24(k:Nat):Qbe.f (k+5)=some true:=by
 have h:Qar.f (k+5) ([1,2,3]:List Int) ([(⟨1,9⟩:S158)]:List S158) 2=some [1,9]:=by kernel_rfl
 have h2:(strOfNums [1,9]).toList=([1,9]:List UInt8):=by rw[Lib.toList_data];rfl
 unfold Qbe.f;rw[h,Option.bind_some,show Qba.f=some true from rfl,Option.bind_some,if_pos rfl,h2];rfl
theorem lives24k(k:Nat)(hk:5≤k):Qbe.f k=some true:=by
 obtain⟨m,rfl⟩:∃m,k=m+5:=⟨k-5,by omega⟩;exact lives24 m
end Go.Proofs.YteaocbonofboeaaGreat.CodecP
end
section
namespace Go.Proofs.YteaocbonofboeaaGreat.Pure
open Go.RowKit Go.Proofs.YteaocbonofboeaaGreat.C Go.Proofs.YteaocbonofboeaaGreat.CodecP Go.Proofs.YteaocbonofboeaaGreatW.PrintWords Go.Proofs.YteaocbonofboeaaGreatW.PrintLast Go.Proofs.YteaocbonofboeaaGreatW.PrintMore Go.Proofs.YteaocbonofboeaaGreat.Open
theorem wf_row{l:List Rec}(h:∀x∈l,OG37 x):Wf l:=by
 intro r hr;have h1:(Lit.int .u64 r.f1).wf=true:=(h r hr).2.1;simp only[Lit.wf,IntKind.min,IntKind.max,IntKind.signed,IntKind.bits,Bool.and_eq_true,decide_eq_true_eq]at h1;simp at h1;omega
theorem wf_u8{x:Int}(h1:(Lit.int .u8 x).wf=true):0≤x∧x<256:=by
 simp only[Lit.wf,IntKind.min,IntKind.max,IntKind.signed,IntKind.bits,Bool.and_eq_true,decide_eq_true_eq]at h1;simp at h1;omega
theorem rdPl(l:List Plc)(i:Nat)(h:i<l.length):Qkj l (i:Int)=l[i]:=by simp[Qkj,List.getElem?_eq_getElem h]
theorem shl_one{e:Int}(h1:12≤e)(h2:e≤24):shl .i64 1 e=szN e:=by
 have hs:=Qvu h1 h2;unfold shl;have he:min e.toNat IntKind.i64.bits=e.toNat:=by simp[IntKind.bits];omega
 rw[he,Int.one_mul];exact IntWalk.i64_in _ (by unfold szN at hs;omega)
theorem place_range(e s:Int):∀(into sizes:List Int) (prev:Option Int) (at_:Int),(∀x∈into,0≤x∧x<s)→∀p∈Qxr e s prev at_ into sizes,(0≤p.f0∧p.f0<s)∧0≤p.f1∧p.f1<4294967296
 | [],sizes,prev,at_,h=>by cases sizes<;>simp[Qxr]
 | x :: into,[],prev,at_,h=>by simp[Qxr]
 | x :: into,z :: sizes,prev,at_,h=>by
  rw[Qxr];intro p hp
  rcases List.mem_cons.1 hp with rfl|hp
  ·exact⟨h x (List.mem_cons_self ..),by dsimp only;omega,by dsimp only;omega⟩
  ·exact place_range e s into sizes _ _ (fun y hy=>h y (List.mem_cons_of_mem _ hy)) p hp
theorem frames_le:∀l:List Rec,(∀r∈l,chkR r=0)→(l.flatMap Qxd).length≤l.length*8388608
 | [],_=>by simp
 | r :: l,h=>by
  have h1:=Qxg r (h r (List.mem_cons_self ..));have ih:=frames_le l (fun x hx=>h x (List.mem_cons_of_mem _ hx));unfold fsz at h1;rw[List.flatMap_cons,List.length_append,List.length_cons];omega
theorem si_l0(l:List Rec)(hl:l.length≤1000000)(hw:Wf l)(hk:∀r∈l,(r.f2.size:Int)≤2000∧(r.f3.size:Int)≤2000)(ps:List Plc)(hps:ps.length=l.length)(hp:∀p∈ps,(0≤p.f0∧p.f0<1000000)∧0≤p.f1∧p.f1<4294967296) :
  ∀(d j k:Nat),j+d=l.length→20000≤k→Qbb.l0 (k+d+1) l ps (zipF ps l) ((zipF ps l).length:Int) (j:Int)=some true
 | 0,j,k,hd,hk0=>by
  obtain⟨z1,z2⟩:=zipF_at ps l hps;unfold Qbb.l0;rw[if_neg (by omega)]
 | d+1,j,k,hd,hk0=>by
  obtain⟨z1,z2⟩:=zipF_at ps l hps;have hj:j<l.length:=by omega
  have hj2:j<ps.length:=by omega
  have hj3:j<(zipF ps l).length:=by omega
  have hx:=z2 j hj3 hj2 hj;have hpj:=hp ps[j] (List.getElem_mem hj2);have hwr:=hw l[j] (List.getElem_mem hj);have hkr:=hk l[j] (List.getElem_mem hj);obtain⟨t,ht,hb⟩:=Qvi (k+(d+1)) l[j].f0 l[j].f1 l[j].f2 l[j].f3 hwr.1 hwr.2 (by omega) (by omega) (by omega);have hb':bytesOf t=Qxd l[j]:=hb;have htz:((Qxd l[j]).length:Int)=(t.size:Int):=by rw[← hb',Qdv]
  unfold Qbb.l0;rw[if_pos (by omega),if_pos (by omega),if_pos (by omega),if_pos (by omega),rd_Fd _ j hj3,hx,rdPl ps j hj2,rdR l j hj];dsimp only;rw[IntWalk.u64_in ps[j].f0 (by omega),show wrap64 ps[j].f1=ps[j].f1 by unfold wrap64;omega,if_pos rfl,if_pos rfl,if_pos (by omega),ht,Option.bind_some,if_pos htz,Quy j (by omega),show k+(d+1)=k+d+1 by omega];exact si_l0 l hl hw hk ps hps hp d (j+1) k (by omega) hk0
theorem SalvageImage:Qbb.Pure:=by
 intro x0 l h0 hG;have hl:l.length≤4611686018427387903:=by have:=hG.1;omega
 have hw:=wf_row hG.2;have hx:=wf_u8 h0;obtain⟨K,hK⟩:∃K:Nat,K=l.length+3000000:=⟨_,rfl⟩;refine⟨K+1+1,?_⟩;unfold Qbb.f;rw[show Qba.f=some true from rfl,Option.bind_some,if_pos rfl,Qxy l 40 2000 _ hl (by omega),Option.bind_some,Qbb.j0]
 by_cases hf:few l 40 2000=true
 ·have hn:=Qxz hf;have h1:l.length≤1000000:=by omega
  have hsm:Qay.f x0=some (12+x0%2,1+x0/2%8):=by unfold Qay.f;rw[if_pos hx.1,if_pos hx.2]
  rw[if_neg (by simp[hf]),hsm,Option.bind_some];dsimp only;obtain⟨e,he⟩:∃e,e=12+x0%2:=⟨_,rfl⟩;obtain⟨s,hs⟩:∃s,s=1+x0/2%8:=⟨_,rfl⟩;rw[← he,← hs];have he1:12≤e∧e≤13:=by omega
  have hs1:1≤s∧s≤8:=by omega
  have hsz8:szN e≤8192:=by
   have:e=12∨e=13:=by omega
   rcases this with h|h<;>rw[h]<;>decide
  by_cases hz:(Qxl e s l).2.2=0
  ·obtain⟨hg,hc,hil,f1,hA,hst⟩:=encode_img e s l (K+1) h1 hw (by omega) hz;obtain⟨_,_,_,_,_,hin⟩:=Qxu hz h1;have hr:∀g∈partsOf (Qxi e s l).1 l,∀r∈g,okR r:=fun g a r hr2=>by
    have hm:r∈l:=by
     rw[← partsOf_flat (Qxi e s l).1 l];exact List.mem_flatten.2 ⟨g,a,hr2⟩
    exact⟨Qwt hc r hm,hw r hm⟩
   have hbt:=img_bytes hg _ 0 hA hr;have hpl:=AllG.lenJ (Int.le_refl 0) (by omega) hA;have hil2:=img_len hg _ 0 hA;have hsz:=Qvu hg.1 hg.2.1;have hlen:(imgP e s 0 (partsOf (Qxi e s l).1 l)).length≤100000:=by
    rw[hil2];have a1:(partsOf (Qxi e s l).1 l).length≤8:=by omega
    have a2:(szN e).toNat≤8192:=by omega
    exact Nat.le_trans (Nat.mul_le_mul a1 a2) (by decide)
   have hfr:=frames_le l (Qwt hc);have hfb:(l.flatMap Qxd).length≤1000000000:=by
    have a1:l.length≤40:=by omega
    have a2:l.length*8388608≤40*8388608:=Nat.mul_le_mul_right _ a1;omega
   have hpz:=zip_places e s l (Qxi e s l).1 none 0 hil;have hzl:=(zipF_at _ l hpz).1;rw[f1,Option.bind_some,Qxv e s l _ h1 hw (by omega),Option.bind_some,if_pos hz,hz];dsimp only;rw[if_pos rfl,show((0:Int) != 0)=false from rfl,Qbb.j1,if_neg (by simp),if_pos (by omega),shl_one hg.1 hg.2.1,salvage_is (szN e) _ hbt hlen K (by omega),Option.bind_some,allF_img hg _ hA hr,img_places hst hil hfb];rw[recs_is _ (by omega) K (by omega),Option.bind_some,zipF_recs _ l hpz,rsame_is l h1 K (by omega),Option.bind_some,if_pos rfl];have h2:=si_l0 l h1 hw hn.2 _ hpz (fun p hp=>by have:=place_range e s _ _ _ _ hin p hp;omega) l.length 0 (K-l.length-1) (by omega) (by omega);rw[show K-l.length-1+l.length+1=K by omega]at h2;exact h2
  ·have hb:=encode_bad e s l (K+1) h1 hw (by omega) hz;rw[hb,Option.bind_some,Qxv e s l _ h1 hw (by omega),Option.bind_some,if_neg hz];dsimp only;rw[if_neg hz,Qbb.j1,if_pos rfl];simp
 ·rw[if_pos (by simp[hf])];rfl
theorem ds_l0(P A:List Rec)(a2:Int)(hA:A.length≤1000000):∀(d j k:Nat) (out:List Rec),j+d=A.length→out.length≤j →
  ∃C:List Rec,C.Sublist (A.drop j)∧Qbd.l0 (k+d+1) P A a2 out A (A.length:Int) (j:Int)=((Qau.f k P A).bind fun t401=>((Qce.f k P A).bind fun t402=>(if(t401 == t402)=true then((Qau.f k (out++C) A).bind fun t403=>(if t403=true then((Qau.f k ([]:List Rec) A).bind fun t404=>(some t404))else(some false)))else(some false))))
 | 0,j,k,out,hd,ho=>by
  refine⟨[],List.nil_sublist _,?_⟩;unfold Qbd.l0;rw[if_neg (by omega),List.append_nil]
 | d+1,j,k,out,hd,ho=>by
  have hj:j<A.length:=by omega
  unfold Qbd.l0;rw[if_pos (by omega),if_pos (by omega),if_pos (by omega),Quy j (by omega),rdR A j hj,show k+(d+1)=k+d+1 by omega,List.drop_eq_getElem_cons hj]
  by_cases hc:(Go.bits .and .u32 (shr .u32 a2 (j:Int)) 1)=1
  ·obtain⟨C,h1,h2⟩:=ds_l0 P A a2 hA d (j+1) k (out++[A[j]]) (by omega) (by rw[List.length_append,List.length_singleton];omega);refine⟨A[j] :: C,h1.cons_cons _,?_⟩;rw[if_pos hc,if_pos (by omega)];refine Eq.trans h2 ?_;rw[List.append_assoc,List.singleton_append]
  ·obtain⟨C,h1,h2⟩:=ds_l0 P A a2 hA d (j+1) k out (by omega) (by omega);refine⟨C,h1.cons _,?_⟩;rw[if_neg hc];exact h2
theorem DamageSublist:Qbd.Pure:=by
 intro P A a2 hP hA h2;have hPl:P.length≤4611686018427387903:=by have:=hP.1;omega
 have hAl:A.length≤4611686018427387903:=by have:=hA.1;omega
 obtain⟨K,hK⟩:∃K:Nat,K=P.length+A.length+3000000:=⟨_,rfl⟩;refine⟨K+1,?_⟩;unfold Qbd.f;rw[lives24k _ (by omega),Option.bind_some,if_pos rfl,Qxy P 30 300 _ hPl (by omega),Option.bind_some,Qxy A 30 300 _ hAl (by omega),Option.bind_some];have hend:Qbd.j0 (K+1) P A a2 true=some true:=by
  rw[Qbd.j0,if_pos rfl,lives24k _ (by omega)];rfl
 by_cases hf:few P 30 300=true
 ·by_cases hg:few A 30 300=true
  ·have hn:=Qxz hf;have hm:=Qxz hg;obtain⟨C,h1,h3⟩:=ds_l0 P A a2 (by omega) A.length 0 (K-A.length-1) [] (by omega) (by simp);rw[show K-A.length-1+A.length+1=K by omega]at h3;rw[List.drop_zero]at h1;have hC:=h1.length_le;rw[if_pos hf,hg,Qbd.j0,if_neg (by simp)];refine Eq.trans h3 ?_;rw[sub_is P A (by omega) (by omega) _ (by omega),Option.bind_some,rsub_is P A (by omega) (by omega) _ (by omega),Option.bind_some,if_pos (by simp),List.nil_append,sub_is C A (by omega) (by omega) _ (by omega),Option.bind_some,subR_of A C h1,if_pos rfl,sub_is [] A (by simp) (by omega) _ (by omega),Option.bind_some,subR_nil]
  ·rw[if_pos hf,show(!few A 30 300)=true by simp[hg]];exact hend
 ·rw[if_neg hf];exact hend
theorem hit_none(n a b:Int):Qat.f [] (-1) n a b=some false:=by
 have hm:mn b n≤n:=by unfold mn;split<;>omega
 unfold Qat.f;rw[if_pos (by simp)]
 by_cases h:mn b n≤mx a 0
 ·rw[if_pos h]
 ·rw[if_neg h];unfold Qas.f;rw[if_pos (by omega),Option.bind_some,if_neg (by omega)];rfl
theorem plc_len(e s:Int):∀(l:List Rec) (into:List Int) (prev:Option Int) (at_:Int),into.length=l.length→(Qxr e s prev at_ into (l.map fsz)).length=l.length
 | [],into,prev,at_,h=>by cases into<;>simp[Qxr]
 | r :: l,[],prev,at_,h=>by simp at h
 | r :: l,x :: into,prev,at_,h=>by
  rw[List.map_cons,Qxr,List.length_cons,plc_len e s l into _ _ (by simpa using h),List.length_cons]
theorem sure_l0(ps:List Plc)(n sz:Int)(l:List Rec)(hl:l.length≤1000000)(hw:Wf l)(hc:∀r∈l,chkR r=0)(hps:ps.length=l.length):∀(d j k:Nat) (out:List Bool),j+d=l.length→out.length=j →
  Qav.l0 (k+d+1) ps n sz out l (l.length:Int) (j:Int) [] (-1)=some (out++List.replicate d true,0)
 | 0,j,k,out,hd,ho=>by
  unfold Qav.l0;rw[if_neg (by omega)];simp
 | d+1,j,k,out,hd,ho=>by
  have hj:j<l.length:=by omega
  have hwr:=hw l[j] (List.getElem_mem hj);unfold Qav.l0;rw[if_pos (by omega),if_pos (by omega),if_pos (by omega),rdR l j hj,Qxh l[j] (hc _ (List.getElem_mem hj)) hwr.1 hwr.2,Option.bind_some,if_pos (by omega),hit_none,Option.bind_some,if_pos (by omega),Quy j (by omega),show k+(d+1)=k+d+1 by omega];refine Eq.trans (sure_l0 ps n sz l hl hw hc hps d (j+1) k (out++[!false]) (by omega) (by rw[List.length_append,ho];rfl)) ?_;rw[List.append_assoc];rfl
theorem de_l0(l:List Rec)(x7:List Bool)(x8:Int)(m:Nat)(hm:m≤1000000):∀(d j k:Nat),j+d=m→Qbc.l0 (k+d+1) l x7 x8 (List.replicate m true) ((List.replicate m true).length:Int) (j:Int)=(if x8=0 then(some ((x7.length:Int) == (l.length:Int)))else(if(x7.length:Int)=0 then(some true)else(some false)))
 | 0,j,k,hd=>by
  unfold Qbc.l0;rw[if_neg (by rw[List.length_replicate];omega)]
 | d+1,j,k,hd=>by
  have hj:j<m:=by omega
  have hr:rdOf false (List.replicate m true) (j:Int)=true:=by simp[rdOf,hj]
  unfold Qbc.l0;rw[if_pos (by rw[List.length_replicate];omega),if_pos (by omega),if_pos (by rw[List.length_replicate];omega),if_pos hr,Quy j (by omega),show k+(d+1)=k+d+1 by omega];exact de_l0 l x7 x8 m hm d (j+1) k (by omega)
theorem DamageErrors:Qbc.Pure:=by
 intro c l hc0 hG;have hl:l.length≤4611686018427387903:=by have:=hG.1;omega
 have hw:=wf_row hG.2;obtain⟨e,s⟩:=c;dsimp only;obtain⟨K,hK⟩:∃K:Nat,K=l.length+5000000:=⟨_,rfl⟩;refine⟨K+1,?_⟩;unfold Qbc.f;have hend:Qbc.j0 (K+1) l true e s=some true:=by
  rw[Qbc.j0,if_pos rfl,lives24k _ (by omega)];rfl
 rw[lives24k _ (by omega),Option.bind_some,if_pos rfl,Qxy l 10 5000 _ hl (by omega),Option.bind_some]
 by_cases hf:few l 10 5000=true
 ·have hn:=Qxz hf;have h1:l.length≤1000000:=by omega
  rw[if_pos hf,show Qaz.f=some true from rfl,Option.bind_some,Qbc.j0,if_neg (by simp),Qxp e s l _ h1 hw (by omega),Option.bind_some];unfold Qav.f;rw[Qxv e s l _ h1 hw (by omega),Option.bind_some]
  by_cases hz:(Qxl e s l).2.2=0
  ·obtain⟨hg,hr,h2,h3,h4,h5⟩:=Qxu hz h1;have hcl:=Qwt (Qxm hr);have hpz:=plc_len e s l (Qxi e s l).1 none 0 h4;rw[if_pos hz,hz];dsimp only;rw[if_pos rfl,segs_is e s l _ h1 hw (by omega),Option.bind_some,Qvv hg,Option.bind_some];have hs:=fun n sz=>sure_l0 (Qxr e s none 0 (Qxi e s l).1 (l.map fsz)) n sz l h1 hw hcl hpz l.length 0 (K-l.length-1) [] (by omega) rfl
   rw[show K-l.length-1+l.length+1=K by omega]at hs;have hs':∀n sz,Qav.l0 K (Qxr e s none 0 (Qxi e s l).1 (l.map fsz)) n sz [] l (l.length:Int) 0 [] (-1)=some ([]++List.replicate l.length true,0):=hs;rw[hs',Option.bind_some,List.nil_append];dsimp only;rw[if_pos rfl];have h6:=de_l0 l (List.replicate l.length true) 0 l.length h1 l.length 0 (K-l.length-1) (by omega);rw[show K-l.length-1+l.length+1=K by omega]at h6;refine Eq.trans h6 ?_;rw[if_pos rfl];simp
  ·rw[if_neg hz];dsimp only;rw[Option.bind_some];dsimp only;rw[if_pos rfl];have h6:=de_l0 l [] (Qxl e s l).2.2 0 (by omega) 0 0 (K-1) (by omega);rw[show K-1+0+1=K by omega]at h6;refine Eq.trans h6 ?_;rw[if_neg hz];rfl
 ·rw[if_neg hf];exact hend
end Go.Proofs.YteaocbonofboeaaGreat.Pure
end
