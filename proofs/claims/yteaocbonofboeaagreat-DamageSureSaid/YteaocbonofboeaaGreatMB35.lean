/- Merged texts. -/
import Derived.Test.YteaocbonofboeaaGreatMB34
import Derived.Test.YteaocbonofboeaaGreatMB27
import Derived.Test.YteaocbonofboeaaGreatMB12
set_option linter.unusedVariables false
set_option linter.unusedSimpArgs false
set_option maxHeartbeats 8000000
set_option maxRecDepth 100000
section
namespace Go.Proofs.YteaocbonofboeaaGreat.CodecP
open Go.RowKit Go.Proofs.YteaocbonofboeaaGreat.C Go.Proofs.YteaocbonofboeaaGreatW.PrintWords Go.Proofs.YteaocbonofboeaaGreatW.PrintLast Go.Proofs.YteaocbonofboeaaGreatW.PrintMore
theorem seal_formI{b:List Int}(hb:Bytes b):∃z,Qmx b=z++[0]∧Free z:=⟨_,rfl,(Qxa _ _ (Nat.le_refl _) (hb.app (Qxg 8 _))).1⟩
theorem head_sealI{e s:Int}(hG:Good e s){n:Int}(h0:0≤n)(h1:n<s):∃z,Qnc e s n=z++[0]∧Free z:=by
 obtain⟨a,b,c,d⟩:=hG;refine seal_formI (Bytes.app (Bytes.app ?_ (Qxk s (by omega) (by omega))) (Qxk n h0 (by omega)));intro x hx;simp at hx;omega
theorem cutP_free(sg:Int):∀(z:List Int) (fr at_:Int),Free z→cutP sg fr at_ z=[]
 | [],_,_,_=>rfl
 | x :: z,fr,at_,h=>by
  rw[cutP,if_neg (h x (List.mem_cons_self ..))];exact cutP_free sg z fr (at_+1) (fun y hy=>h y (List.mem_cons_of_mem _ hy))
theorem cutP_chunk(sg:Int)(R:List Int):∀(z:List Int) (fr at_:Int),Free z→cutP sg fr at_ (z++0 :: R)=(sg,fr,at_+(z.length:Int)) :: cutP sg (at_+(z.length:Int)+1) (at_+(z.length:Int)+1) R
 | [],fr,at_,_=>by
  rw[List.nil_append,cutP,if_pos rfl];simp
 | x :: z,fr,at_,h=>by
  rw[List.cons_append,cutP,if_neg (h x (List.mem_cons_self ..)),cutP_chunk sg R z fr (at_+1) (fun y hy=>h y (List.mem_cons_of_mem _ hy)),List.length_cons,show at_+1+(z.length:Int)=at_+((z.length+1:Nat):Int)by omega]
theorem recO_rec{z:List Int}{r:Rec}(h:okR r)(e:z++[0]=Qwf r):recO z=some r:=by
 unfold recO;have g:∃r,okR r∧z++[0]=Qwf r:=⟨r,h,e⟩;rw[dif_pos g];have c:=g.choose_spec;have:=Qxp (x:=[]) (y:=[]) c.1 h (by rw[List.append_nil,List.append_nil,← c.2,e]);rw[this.1]
theorem recO_no{z:List Int}(h:∀r,okR r→z++[0]≠Qwf r):recO z=none:=by
 unfold recO;rw[dif_neg (fun ⟨r,a,b⟩=>h r a b)]
theorem frame_form{r:Rec}(h:okR r):∃z,Qwf r=z++[0]∧Free z:=seal_formI (Qxo h)
theorem head_no{e s n:Int}(he:0≤e∧e<256)(hs:0≤s∧s<4294967296)(hn:0≤n∧n<4294967296){r:Rec}(h:okR r):Qnc e s n≠Qwf r:=by
 intro e1;have hb:Bytes ([1,2,e]++vput 9 s++vput 9 n):=by
  refine Bytes.app (Bytes.app ?_ (Qxk s (by omega) (by omega))) (Qxk n (by omega) (by omega));intro x hx;simp at hx;omega
 have h1:=(Qxh (x:=[]) (y:=[]) hb (Qxo h) (by rw[List.append_nil,List.append_nil];exact e1)).1;unfold Qly at h1;simp only[List.cons_append,List.nil_append,List.append_assoc]at h1;have h2:=(List.cons.inj h1).1;split at h2<;>omega
theorem fndC_at{L:List Int}{n sg f:Nat}{z Y:List Int}(h:L.drop (sg*n+f)=z++Y):fndC L n ((sg:Int),(f:Int),(f:Int)+(z.length:Int))=fndO (recO z) (sg:Int) (f:Int) ((f:Int)+(z.length:Int)):=by
 unfold fndC Qyx;dsimp only;rw[Int.toNat_natCast,Int.toNat_natCast,show((f:Int)+(z.length:Int)-(f:Int)).toNat=z.length by omega,h,List.take_left]
def fdG(sg:Nat):Nat→List Rec→List C.Fd
 | _,[]=>[]
 | off,r :: g=>(⟨r,(sg:Int),(off:Int),((Qwf r).length:Int)⟩:C.Fd) :: fdG sg (off+(Qwf r).length) g
theorem fdG_snoc(sg:Nat):∀(g:List Rec) (off:Nat) (r:Rec),fdG sg off (g++[r])=fdG sg off g++[(⟨r,(sg:Int),((off+(g.flatMap Qwf).length:Nat):Int),((Qwf r).length:Int)⟩:C.Fd)]
 | [],off,r=>by simp[fdG]
 | x :: g,off,r=>by
  rw[List.cons_append,fdG,fdG,fdG_snoc sg g,List.cons_append,List.flatMap_cons,List.length_append,Nat.add_assoc]
def fdP(e s:Int):Nat→List (List Rec)→List C.Fd
 | _,[]=>[]
 | sg,g :: ps=>fdG sg (Qnc e s (sg:Int)).length g++fdP e s (sg+1) ps
theorem cut_frames(L:List Int)(n sg:Nat):∀(g:List Rec) (T:List Int) (a:Nat) (Y:List Int),(∀r∈g,okR r)→L.drop (sg*n+a)=(g.flatMap Qwf++T)++Y →
  (cutP (sg:Int) (a:Int) (a:Int) (g.flatMap Qwf++T)).flatMap (fndC L n)=fdG sg a g++(cutP (sg:Int) ((a+(g.flatMap Qwf).length:Nat):Int) ((a+(g.flatMap Qwf).length:Nat):Int) T).flatMap (fndC L n)
 | [],T,a,Y,_,_=>by simp[fdG]
 | r :: g,T,a,Y,hg,hL=>by
  have hr:=hg r (List.mem_cons_self ..);obtain⟨z,hz,hf⟩:=frame_form hr;have hlen:(Qwf r).length=z.length+1:=by rw[hz,List.length_append];rfl
  have hL':L.drop (sg*n+a)=z++(0 :: ((g.flatMap Qwf++T)++Y)):=by
   rw[hL,List.flatMap_cons,hz];simp only[List.append_assoc,List.singleton_append,List.cons_append,List.nil_append]
  have hnext:L.drop (sg*n+(a+z.length+1))=(g.flatMap Qwf++T)++Y:=by
   rw[show sg*n+(a+z.length+1)=sg*n+a+(z.length+1)by omega,← List.drop_drop,hL',show z.length+1=(z++[0]).length by simp,show z++(0 :: ((g.flatMap Qwf++T)++Y))=(z++[0])++((g.flatMap Qwf++T)++Y)by simp,List.drop_left]
  have ih:=cut_frames L n sg g T (a+z.length+1) Y (fun x hx=>hg x (List.mem_cons_of_mem _ hx)) hnext;have hs:(r :: g).flatMap Qwf++T=z++0 :: (g.flatMap Qwf++T):=by
   rw[List.flatMap_cons,hz];simp only[List.append_assoc,List.singleton_append,List.cons_append,List.nil_append]
  rw[hs,cutP_chunk _ _ z _ _ hf,List.flatMap_cons,fndC_at hL',recO_rec hr hz.symm,show(a:Int)+(z.length:Int)+1=((a+z.length+1:Nat):Int)by omega,ih];rw[fdG,hlen,show a+(z.length+1)=a+z.length+1 by omega,List.flatMap_cons,List.length_append,hlen,show a+(z.length+1+(g.flatMap Qwf).length)=a+z.length+1+(g.flatMap Qwf).length by omega];unfold fndO;rw[show(a:Int)+(z.length:Int)-(a:Int)+1=((z.length+1:Nat):Int)by omega];rfl
theorem seg_tails(e s n:Int)(g:List Rec)(b:Bool):∃(m:Nat) (F:List Int),(F=[]∨∃u l,F=Qpm u l)∧segB e s n g b=Qnc e s n++(g.flatMap Qwf++(F++List.replicate m 255)):=by
 unfold segB tailB;rw[part_frames]
 cases b with
 | true =>
  rw[if_pos rfl];generalize (szN e).toNat-(Qnc e s n++g.flatMap Qwf++Qpm (Qpt (partB e s n g)) (Qor (partB e s n g).2.2)).length=m;exact⟨m,Qpm (Qpt (partB e s n g)) (Qor (partB e s n g).2.2),.inr ⟨_,_,rfl⟩,by simp only[List.append_assoc]⟩
 | false =>
  rw[if_neg (by simp),List.append_nil];generalize (szN e).toNat-(Qnc e s n++g.flatMap Qwf).length=m;exact⟨m,[],.inl rfl,by simp only[List.append_assoc,List.nil_append]⟩
theorem rep_free(m:Nat):Free (List.replicate m (255:Int)):=fun x hx=>by have:=List.eq_of_mem_replicate hx;omega
theorem foot_form(u:Int)(l:List Ent):∃z,Qpm u l=z++[0]∧Free z:=by
 refine seal_formI ?_;refine Bytes.app (Bytes.app (Bytes.app (Bytes.app ?_ (Qxg 4 _)) (Qxg 4 _)) (Qxr _ Qxq l)) (Qxr _ (fun x=>Qxg 8 x) _);intro y hy
 rcases List.mem_singleton.1 hy with rfl
 omega
theorem cut_seg{e s:Int}(hG:Good e s)(m:Nat)(hm:(m:Int)<s)(g:List Rec)(hg:∀r∈g,okR r)(b:Bool)(L:List Int)(n:Nat)(Y:List Int)(h:L.drop (m*n)=segB e s (m:Int) g b++Y) :
  (cutP (m:Int) 0 0 (segB e s (m:Int) g b)).flatMap (fndC L n)=fdG m (Qnc e s (m:Int)).length g:=by
 obtain⟨q,F,hF,hseg⟩:=seg_tails e s (m:Int) g b;obtain⟨g1,g2,g3,g4⟩:=hG;obtain⟨zh,hzh,hfh⟩:=head_sealI ⟨g1,g2,g3,g4⟩ (n:=(m:Int)) (by omega) hm;have hlen:(Qnc e s (m:Int)).length=zh.length+1:=by rw[hzh,List.length_append];rfl
 have hhd:∀r,okR r→zh++[0]≠Qwf r:=fun r hr=>by rw[← hzh];exact head_no (by omega) (by omega) (by omega) hr
 have h0:L.drop (m*n+0)=zh++(0 :: ((g.flatMap Qwf++(F++List.replicate q 255))++Y)):=by
  rw[Nat.add_zero,h,hseg,hzh];simp only[List.append_assoc,List.singleton_append,List.cons_append,List.nil_append]
 have h1:L.drop (m*n+(zh.length+1))=(g.flatMap Qwf++(F++List.replicate q 255))++Y:=by
  rw[← List.drop_drop,← Nat.add_zero (m*n),h0,show zh.length+1=(zh++[0]).length by simp,show zh++(0 :: ((g.flatMap Qwf++(F++List.replicate q 255))++Y))=(zh++[0])++((g.flatMap Qwf++(F++List.replicate q 255))++Y)by simp,List.drop_left]
 have hs:segB e s (m:Int) g b=zh++0 :: (g.flatMap Qwf++(F++List.replicate q 255)):=by
  rw[hseg,hzh];simp only[List.append_assoc,List.singleton_append,List.cons_append,List.nil_append]
 have hc:=fndC_at (f:=0) h0;rw[hs,cutP_chunk _ _ zh _ _ hfh,List.flatMap_cons];have hc':fndC L n ((m:Int),(0:Int),(0:Int)+(zh.length:Int))=[]:=by
  refine Eq.trans hc ?_;rw[recO_no hhd];rfl
 rw[hc',List.nil_append,show(0:Int)+(zh.length:Int)+1=((zh.length+1:Nat):Int)by omega,cut_frames L n m g _ _ Y hg h1,hlen];have hend:(cutP (m:Int) ((zh.length+1+(g.flatMap Qwf).length:Nat):Int) ((zh.length+1+(g.flatMap Qwf).length:Nat):Int) (F++List.replicate q 255)).flatMap (fndC L n)=[]:=by
  rcases hF with rfl |⟨u,l,rfl⟩
  ·rw[List.nil_append,cutP_free _ _ _ _ (rep_free q)];rfl
  ·obtain⟨zf,hzf,hff⟩:=foot_form u l;have hs2:Qpm u l++List.replicate q 255=zf++0 :: List.replicate q 255:=by
    rw[hzf];simp only[List.append_assoc,List.singleton_append,List.cons_append,List.nil_append]
   have h2:L.drop (m*n+(zh.length+1+(g.flatMap Qwf).length))=zf++(0 :: (List.replicate q 255++Y)):=by
    rw[← Nat.add_assoc,← List.drop_drop,h1,hs2];rw[show g.flatMap Qwf++(zf++0 :: List.replicate q 255)++Y=g.flatMap Qwf++(zf++(0 :: (List.replicate q 255++Y)))by simp,List.drop_left]
   rw[hs2,cutP_chunk _ _ zf _ _ hff,List.flatMap_cons,fndC_at h2,cutP_free _ _ _ _ (rep_free q),recO_no (fun r hr=>by rw[← hzf];intro e1;exact Qxs u l [] r [] hr (by rw[List.append_nil,List.append_nil];exact e1))];rfl
 rw[hend,List.append_nil]
theorem imgP_cons(e s:Int)(n:Int)(g:List Rec)(t:List (List Rec)):∃b,imgP e s n (g :: t)=segB e s n g b++imgP e s (n+1) t:=by
 cases t with
 | nil=>exact⟨false,by simp[imgP]⟩
 | cons h t=>exact⟨true,rfl⟩
theorem cut_img{e s:Int}(hG:Good e s)(L:List Int):∀(ps:List (List Rec)) (m:Nat),m≤1000000→AllG e s (m:Int) ps→(∀g∈ps,∀r∈g,okR r)→L.drop (m*(szN e).toNat)=imgP e s (m:Int) ps →
  (cutA (ksOf (szN e).toNat m 0 0) (imgP e s (m:Int) ps)).1.flatMap (fndC L (szN e).toNat)=fdP e s m ps
 | [],m,_,_,_,_=>by simp[imgP,cutA,fdP]
 | g :: t,m,hm,hA,hr,hL=>by
  obtain⟨hA1,hA2⟩:=hA;have hsz:=Qvi hG.1 hG.2.1;obtain⟨b,hb⟩:=imgP_cons e s (m:Int) g t;have hls:=seg_len hG hA1 b;have hms:(m:Int)<s:=hA1.2.1;have hs6:=hG.2.2.2;have h1:=cut_seg hG m hms g (hr g (List.mem_cons_self ..)) b L (szN e).toNat (imgP e s ((m:Int)+1) t) (by rw[hL,hb]);have hpc:=cutA_piece (szN e).toNat m (by omega) (imgP e s ((m:Int)+1) t) (segB e s (m:Int) g b) 0 0 (by omega) (by omega);have h2:L.drop ((m+1)*(szN e).toNat)=imgP e s ((m:Int)+1) t:=by
   rw[Nat.succ_mul,← List.drop_drop,hL,hb,← hls,List.drop_left]
  have ih:=cut_img hG L t (m+1) (by omega) hA2 (fun x hx=>hr x (List.mem_cons_of_mem _ hx)) h2;rw[hb,hpc,List.flatMap_append];unfold fdP;have h1':(cutP (m:Int) ((0:Nat):Int) ((0:Nat):Int) (segB e s (m:Int) g b)).flatMap (fndC L (szN e).toNat)=fdG m (Qnc e s (m:Int)).length g:=h1;rw[h1'];exact congrArg _ ih
theorem allF_img{e s:Int}(hG:Good e s)(ps:List (List Rec))(hA:AllG e s 0 ps)(hr:∀g∈ps,∀r∈g,okR r):allF (szN e) (imgP e s 0 ps)=fdP e s 0 ps:=by
 have hsz:=Qvi hG.1 hG.2.1;have hn:nOf (szN e)=(szN e).toNat:=by unfold nOf;rw[if_pos (by omega)]
 unfold allF;rw[hn];exact cut_img hG (imgP e s 0 ps) ps 0 (by omega) hA hr (by simp)
def zipF:List Plc→List Rec→List C.Fd
 | p :: ps,r :: l=>(⟨r,p.f0,p.f1,((Qwf r).length:Int)⟩:C.Fd) :: zipF ps l
 | _,_=>[]
theorem fdP_places(e s:Int)(into:List Int):∀(rs cur:List Rec) (i m:Nat),cur≠[]→1≤i→rd into ((i:Int)-1)=(m:Int)→StepsI into rs.length i (m:Int)→(cur.flatMap Qwf).length+(rs.flatMap Qwf).length≤1000000000 →
  fdP e s m (partsS into i rs cur)=fdG m (Qnc e s (m:Int)).length cur++zipF (Qwr e s (some (m:Int)) (Qvb e s (m:Int)+((cur.flatMap Qwf).length:Int)) (into.drop i) (rs.map fsz)) rs
 | [],cur,i,m,hc,hi,hp,hst,hb=>by
  rw[partsS,fdP,fdP,List.append_nil]
  cases into.drop i<;>simp[Qwr,zipF]
 | r :: rs,cur,i,m,hc,hi,hp,hst,hb=>by
  obtain⟨hi2,hst2⟩:=hst;rw[List.flatMap_cons,List.length_append]at hb;have hh:=Qvd e s (m:Int);rw[partsS,List.drop_eq_getElem_cons hi2,List.map_cons,Qwr,zipF,← rd_get hi2]
  rcases hst2 with⟨hm,hst3⟩ |⟨hm,hst3⟩
  ·rw[if_pos (by rw[hm,hp]),hm,if_pos rfl];have hb2:((cur++[r]).flatMap Qwf).length=(cur.flatMap Qwf).length+(Qwf r).length:=by simp
   have ih:=fdP_places e s into rs (cur++[r]) (i+1) m (by simp) (by omega) (by rw[show((i+1:Nat):Int)-1=(i:Int)by omega];exact hm) hst3 (by rw[hb2];omega);rw[ih,fdG_snoc,List.append_assoc,hb2];have hN:(Qvb e s (m:Int)+((cur.flatMap Qwf).length:Int))%4294967296=(((Qnc e s (m:Int)).length+(cur.flatMap Qwf).length:Nat):Int):=by
    have:Qvb e s (m:Int)=((Qnc e s (m:Int)).length:Int):=rfl;omega
   dsimp only;rw[hN,show Qvb e s (m:Int)+(((cur.flatMap Qwf).length+(Qwf r).length:Nat):Int)=Qvb e s (m:Int)+((cur.flatMap Qwf).length:Int)+fsz r by unfold fsz;omega];rfl
  ·rw[if_neg (by rw[hm,hp];omega),hm,if_neg (by intro h;have:=Option.some.inj h;omega)];have hh2:=Qvd e s ((m:Int)+1);have ih:=fdP_places e s into rs [r] (i+1) (m+1) (by simp) (by omega) (by rw[show((i+1:Nat):Int)-1=(i:Int)by omega];exact hm) hst3 (by rw[show [r].flatMap Qwf=Qwf r by simp];omega);rw[fdP,ih];have hN:Qvb e s ((m:Int)+1)%4294967296=((Qnc e s ((m+1:Nat):Int)).length:Int):=by
    have:Qvb e s ((m:Int)+1)=((Qnc e s ((m+1:Nat):Int)).length:Int):=rfl;omega
   dsimp only;rw[hN,fdG,fdG,show([r].flatMap Qwf)=Qwf r by simp];rfl
theorem img_places{e s:Int}{into:List Int}{l:List Rec}(hl:l≠[]→rd into 0=0∧StepsI into (l.length-1) 1 0)(hil:into.length=l.length)(hb:(l.flatMap Qwf).length≤1000000000) :
  fdP e s 0 (partsOf into l)=zipF (Qwr e s none 0 into (l.map fsz)) l:=by
 cases l with
 | nil=>cases into<;>simp[partsOf,fdP,zipF,Qwr]
 | cons r rs =>
  obtain⟨h0,hst⟩:=hl (by simp);have hi:0<into.length:=by rw[hil];simp
  have hh:=Qvd e s 0;rw[List.flatMap_cons,List.length_append]at hb;have h1:=fdP_places e s into rs [r] 1 0 (by simp) (by omega) (by simpa using h0) (by simpa using hst) (by rw[show [r].flatMap Qwf=Qwf r by simp];omega);unfold partsOf;rw[h1];have hc:into=0 :: into.drop 1:=by
   have:=List.drop_eq_getElem_cons hi;rw[List.drop_zero,← rd_get hi]at this;rw[show((0:Nat):Int)=0 from rfl,h0]at this;exact this
  rw[List.map_cons];rw[hc,Qwr,zipF,if_neg (by simp)];have hN:Qvb e s 0%4294967296=((Qnc e s ((0:Nat):Int)).length:Int):=by
   have:Qvb e s 0=((Qnc e s ((0:Nat):Int)).length:Int):=rfl;omega
  dsimp only;rw[hN,fdG,fdG,show([r].flatMap Qwf)=Qwf r by simp];rfl
theorem zip_places(e s:Int):∀(l:List Rec) (into:List Int) (prev:Option Int) (at_:Int),into.length=l.length→(Qwr e s prev at_ into (l.map fsz)).length=l.length
 | [],into,prev,at_,h=>by cases into<;>simp[Qwr]
 | r :: l,[],prev,at_,h=>by simp at h
 | r :: l,x :: into,prev,at_,h=>by
  rw[List.map_cons,Qwr,List.length_cons,zip_places e s l into _ _ (by simpa using h),List.length_cons]
theorem zipF_at:∀(ps:List Plc) (l:List Rec),ps.length=l.length→(zipF ps l).length=l.length∧∀j (h:j<(zipF ps l).length) (h1:j<ps.length) (h2:j<l.length),(zipF ps l)[j]=(⟨l[j],ps[j].f0,ps[j].f1,((Qwf l[j]).length:Int)⟩:C.Fd)
 | [],[],_=>⟨rfl,fun j h=>by simp[zipF]at h⟩
 | [],_ :: _,h=>by simp at h
 | _ :: _,[],h=>by simp at h
 | p :: ps,r :: l,h=>by
  obtain⟨i1,i2⟩:=zipF_at ps l (by simpa using h);refine⟨by simp[zipF,i1],fun j h h1 h2=>?_⟩
  cases j with
  | zero=>rfl
  | succ j=>exact i2 j (by simpa [zipF]using h) (by simpa using h1) (by simpa using h2)
theorem rd_Fd(X:List C.Fd)(j:Nat)(hj:j<X.length):Qjk X (j:Int)=X[j]:=by
 unfold Qjk;rw[Int.toNat_natCast,List.getD_eq_getElem?_getD,List.getElem?_eq_getElem hj];rfl
theorem recs_l0(x:List C.Fd)(hx:x.length≤1000000):∀(d j k:Nat) (out:List Rec),j+d=x.length→out.length+d≤1000000→Qcq.l0 (k+d+1) out x (x.length:Int) (j:Int)=some (out++(x.drop j).map (fun f=>f.f0))
 | 0,j,k,out,hd,ho=>by
  unfold Qcq.l0;rw[if_neg (by omega),List.drop_of_length_le (by omega)];simp
 | d+1,j,k,out,hd,ho=>by
  have hj:j<x.length:=by omega
  unfold Qcq.l0;rw[if_pos (by omega),if_pos (by omega),if_pos (by omega),if_pos (by omega),Quo j (by omega),show k+(d+1)=k+d+1 by omega,rd_Fd x j hj];refine Eq.trans (recs_l0 x hx d (j+1) k (out++[x[j].f0]) (by omega) (by simp only[List.length_append,List.length_singleton];omega)) ?_;rw[List.drop_eq_getElem_cons hj,List.map_cons,List.append_assoc,List.singleton_append]
theorem recs_is(x:List C.Fd)(hx:x.length≤1000000)(k:Nat)(hk:x.length+1≤k):Qcq.f k x=some (x.map (fun f=>f.f0)):=by
 unfold Qcq.f;have h:=recs_l0 x hx x.length 0 (k-x.length-1) [] (by omega) qq_37;rw[show k-x.length-1+x.length+1=k by omega,List.drop_zero,List.nil_append]at h;exact h
theorem AllG.lenJ{e s:Int}:∀ {ps:List (List Rec)} {n:Int},0≤n→n≤s→AllG e s n ps→(ps.length:Int)+n≤s
 | [],n,_,h,_=>by simpa using h
 | g :: t,n,h0,_,h=>by
  have:=AllG.lenJ (ps:=t) (n:=n+1) (by omega) (by have:=h.1.2.1;omega) h.2;rw[List.length_cons];omega
theorem lastE_id(i:Nat):∀(E:List Ed) (v:Int),(∀e∈E,e.f0≠(i:Int))→lastE i v E=v
 | [],v,_=>rfl
 | e :: E,v,h=>by
  show lastE i (if e.f0=(i:Int)then e.f1 else v) E=v;rw[if_neg (h e (List.mem_cons_self ..))];exact lastE_id i E v (fun x hx=>h x (List.mem_cons_of_mem _ hx))
def hurt(b:List Int)(E:List Ed)(c:Int):List Int:=(setE b E).take (leftN c b.length)
theorem und_at(b:List Int)(E:List Ed)(c:Int)(hw:wfEd E)(i:Nat)(hi:i<b.length)(h:damB c E i=false):(hurt b E c)[i]? = b[i]?∧i<(hurt b E c).length:=by
 have hn:¬((0≤c∧c≤(i:Int))∨∃e∈E,e.f0=(i:Int)):=fun g=>by
  have:=(damB_iff c E i).2 g;rw[this]at h
  cases h
 have hl:i<leftN c b.length:=by
  unfold leftN;split
  ·exact hi
  ·split
   ·have:¬(0≤c∧c≤(i:Int)):=fun g=>hn (.inl g)
    omega
   ·exact hi
 unfold hurt;refine⟨?_,by rw[List.length_take,setE_len];omega⟩;rw[List.getElem?_take_of_lt hl,setE_at E b i hi hw,lastE_id i E _ (fun e he g=>hn (.inr ⟨e,he,g⟩)),List.getElem?_eq_getElem hi]
theorem hurt_bytes(b:List Int)(hb:Bytes b)(E:List Ed)(hw:wfEd E)(c:Int):Bytes (hurt b E c):=by
 have h:∀(E:List Ed) (o:List Int),Bytes o→wfEd E→Bytes (setE o E):=by
  intro E
  induction E with
  | nil=>intro o ho _;exact ho
  | cons e E ih =>
   intro o ho hw;refine ih (stepE o e) ?_ (fun x hx=>hw x (List.mem_cons_of_mem _ hx));unfold stepE;split
   ·intro x hx
    rcases List.mem_or_eq_of_mem_set hx with g|g
    ·exact ho x g
    ·rw[g];exact(hw e (List.mem_cons_self ..)).2
   ·exact ho
 exact fun x hx=>h E b hb hw x (List.mem_of_mem_take hx)
theorem hurt_len(b:List Int)(E:List Ed)(c:Int):(hurt b E c).length≤b.length:=by
 unfold hurt;rw[List.length_take,setE_len];omega
theorem tgt_self(L:List Int)(n:Nat):∀(l pre:List Int) (sg at_ fr:Nat),L=pre++l→L.length≤1000000→fr≤at_→at_<n→pre.length=sg*n+at_→(fr=0∨L[sg*n+fr-1]? = some 0)→(∀i,fr≤i→i<at_→L[sg*n+i]?≠some 0)→Tgt n L (sg*n+at_) (cutA (ksOf n sg at_ fr) l).1
 | [],pre,sg,at_,fr,_,_,_,_,_,_,_=>by simp[cutA,Tgt]
 | x :: l,pre,sg,at_,fr,hL,hLl,hp1,hp2,hlen,hb1,hb2=>by
  have hLlen:L.length=pre.length+(l.length+1):=by rw[hL,List.length_append,List.length_cons]
  have hsgn:sg≤sg*n:=Nat.le_mul_of_pos_right _ (by omega);have hnext:L=(pre++[x])++l:=by rw[hL];simp
  have hpl:(pre++[x]).length=sg*n+at_+1:=by rw[List.length_append];simp only[List.length_singleton];omega
  have hmul:(sg+1)*n=sg*n+n:=Nat.succ_mul _ _;have hxat:L[sg*n+at_]? = some x:=by
   rw[hL,← hlen,List.getElem?_append_right (Nat.le_refl _)];simp
  rw[cutA_step n sg at_ fr x l (by omega)];have hrest:Tgt n L (sg*n+at_+1) (cutA (if at_+1=n then ksOf n (sg+1) 0 0 else ksOf n sg (at_+1) (if x=0 then at_+1 else fr)) l).1:=by
   by_cases hw:at_+1=n
   ·rw[if_pos hw];exact Tgt.low (by omega) (tgt_self L n l (pre++[x]) (sg+1) 0 0 hnext hLl (Nat.le_refl _) (by omega) (by omega) (.inl rfl) (fun i h1 h2=>by omega))
   ·rw[if_neg hw]
    by_cases hx:x=0
    ·rw[if_pos hx];exact Tgt.low (by omega) (tgt_self L n l (pre++[x]) sg (at_+1) (at_+1) hnext hLl (Nat.le_refl _) (by omega) (by omega) (.inr (by rw[show sg*n+(at_+1)-1=sg*n+at_ by omega,hxat,hx])) (fun i h1 h2=>by omega))
    ·rw[if_neg hx];refine Tgt.low (by omega) (tgt_self L n l (pre++[x]) sg (at_+1) fr hnext hLl (by omega) (by omega) (by omega) hb1 (fun i h1 h2=>?_))
     by_cases hi:i=at_
     ·rw[hi,hxat];intro e;exact hx (Option.some.inj e)
     ·exact hb2 i h1 (by omega)
  by_cases hx:x=0
  ·rw[if_pos hx,List.singleton_append];exact⟨sg,fr,at_,rfl,Nat.le_refl _,by omega,by rw[hxat,hx],⟨hp1,hp2,hb1,hb2⟩,hrest⟩
  ·rw[if_neg hx,List.nil_append];exact Tgt.low (by omega) hrest
def wantX(c:Int)(E:List Ed)(n:Nat)(x:C.Fd):Bool:=!anyD c E (x.f1.toNat*n+x.f2.toNat-1) (x.f3.toNat+1)
def wantC(c:Int)(E:List Ed)(n:Nat)(k:Ck):Bool:=!anyD c E (k.1.toNat*n+k.2.1.toNat-1) ((k.2.2-k.2.1).toNat+2)
theorem anyD_no{c:Int}{E:List Ed}{a d:Nat}(h:anyD c E a d=false)(i:Nat)(h1:a≤i)(h2:i<a+d):damB c E i=false:=by
 cases g:damB c E i with
 | false=>rfl
 | true =>
  have:=(anyD_iff c E d a).2 ⟨i,h1,h2,g⟩;rw[this]at h
  cases h
theorem take_same{L L':List Int}{a d:Nat}(h:∀i,a≤i→i<a+d→L'[i]? = L[i]?):(L'.drop a).take d=(L.drop a).take d:=by
 apply List.ext_getElem?;intro i
 by_cases hi:i<d
 ·rw[List.getElem?_take_of_lt hi,List.getElem?_take_of_lt hi,List.getElem?_drop,List.getElem?_drop];exact h (a+i) (by omega) (by omega)
 ·rw[List.getElem?_take_eq_none (by omega),List.getElem?_take_eq_none (by omega)]
theorem tgt_move(L:List Int)(E:List Ed)(c:Int)(hw:wfEd E)(n:Nat):∀(T:List Ck) (lo:Nat),Tgt n L lo T→Tgt n (hurt L E c) lo (T.filter (wantC c E n))∧(T.filter (wantC c E n)).flatMap (fndC (hurt L E c) n)=(T.filter (wantC c E n)).flatMap (fndC L n)
 | [],lo,_=>⟨trivial,rfl⟩
 | k :: T,lo,h=>by
  obtain⟨s,f,t,hk,h2,h3,h4,⟨h5,h6,h7,h8⟩,h9⟩:=h;obtain⟨i1,i2⟩:=tgt_move L E c hw n T _ h9
  cases hq:wantC c E n k with
  | false =>
   rw[List.filter_cons_of_neg (by rw[hq];simp)];exact⟨Tgt.low (by omega) i1,i2⟩
  | true =>
   rw[List.filter_cons_of_pos hq];have hany:anyD c E (s*n+f-1) (t-f+2)=false:=by
    unfold wantC at hq;rw[hk]at hq;dsimp only at hq;rw[Int.toNat_natCast,Int.toNat_natCast,show((t:Int)-(f:Int)).toNat=t-f by omega]at hq
    simpa using hq
   have hund:∀i,s*n+f-1≤i→i<s*n+f-1+(t-f+2)→i<L.length→(hurt L E c)[i]? = L[i]?∧i<(hurt L E c).length:=fun i g1 g2 g3=>und_at L E c hw i g3 (anyD_no hany i g1 g2)
   have hin:∀i,f≤i→i≤t→(hurt L E c)[s*n+i]? = L[s*n+i]?:=fun i g1 g2=>(hund (s*n+i) (by omega) (by omega) (by omega)).1
   refine⟨⟨s,f,t,hk,h2,(hund (s*n+t) (by omega) (by omega) h3).2,by rw[hin t h5 (Nat.le_refl _)];exact h4,⟨h5,h6,?_,fun i g1 g2=>by rw[hin i g1 (by omega)];exact h8 i g1 g2⟩,i1⟩,?_⟩
   ·rcases h7 with g|g
    ·exact .inl g
    ·by_cases hf:f=0
     ·exact .inl hf
     ·exact .inr (by rw[(hund (s*n+f-1) (by omega) (by omega) (by omega)).1];exact g)
   ·rw[List.flatMap_cons,List.flatMap_cons,i2];have hb:Qyx (hurt L E c) n k=Qyx L n k:=by
     rw[hk];unfold Qyx;dsimp only;rw[Int.toNat_natCast,Int.toNat_natCast,show((t:Int)-(f:Int)).toNat=t-f by omega];refine take_same (fun i g1 g2=>?_);have:=hin (i-s*n) (by omega) (by omega);rw[show s*n+(i-s*n)=i by omega]at this;exact this
    have hfn:fndC (hurt L E c) n k=fndC L n k:=by unfold fndC;rw[hb]
    rw[hfn]
theorem filter_found(L:List Int)(E:List Ed)(c:Int)(n:Nat):∀(T:List Ck) (lo:Nat),Tgt n L lo T→(T.filter (wantC c E n)).flatMap (fndC L n)=(T.flatMap (fndC L n)).filter (wantX c E n)
 | [],lo,_=>rfl
 | k :: T,lo,h=>by
  obtain⟨s,f,t,hk,h2,h3,h4,⟨h5,h6,h7,h8⟩,h9⟩:=h;have ih:=filter_found L E c n T _ h9;rw[List.flatMap_cons,List.filter_append,← ih];have hf:fndC L n k=fndO (recO (Qyx L n k)) (s:Int) (f:Int) (t:Int):=by unfold fndC;rw[hk]
  have hx:∀r:Rec,wantX c E n (⟨r,(s:Int),(f:Int),(t:Int)-(f:Int)+1⟩:C.Fd)=wantC c E n k:=fun r=>by
   unfold wantX wantC;rw[hk];dsimp only;rw[show((t:Int)-(f:Int)+1).toNat+1=((t:Int)-(f:Int)).toNat+2 by omega]
  cases hq:wantC c E n k with
  | false =>
   rw[List.filter_cons_of_neg (by rw[hq];simp),hf]
   cases recO (Qyx L n k)with
   | none=>rfl
   | some r =>
    unfold fndO;rw[List.filter_cons_of_neg (by rw[hx r,hq];simp)];rfl
  | true =>
   rw[List.filter_cons_of_pos hq,List.flatMap_cons,hf]
   congr 1
   cases recO (Qyx L n k)with
   | none=>rfl
   | some r =>
    unfold fndO;rw[List.filter_cons_of_pos (by rw[hx r];exact hq)];rfl
theorem sure_found(a0:Int)(L:List Int)(hL:L.length≤1000000)(E:List Ed)(hw:wfEd E)(c:Int):((allF a0 L).filter (wantX c E (nOf a0))).Sublist (allF a0 (hurt L E c)):=by
 have h:=tgt_self L (nOf a0) L [] 0 0 0 rfl hL (Nat.le_refl _) (by unfold nOf;split<;>omega) (by simp) (.inl rfl) (fun i h1 h2=>by omega);have h0:Tgt (nOf a0) L 0 (cutA (ksOf (nOf a0) 0 0 0) L).1:=Tgt.low (by omega) h;obtain⟨m1,m2⟩:=tgt_move L E c hw (nOf a0) _ 0 h0;have h2:=tgt_found a0 (hurt L E c) (Nat.le_trans (hurt_len L E c) hL) _ m1;rw[m2,filter_found L E c (nOf a0) _ 0 h0]at h2;exact h2
end Go.Proofs.YteaocbonofboeaaGreat.CodecP
end
