/- Merged texts. -/
import Derived.Test.YteaocbonofboeaaGreatME31
import Derived.Test.YteaocbonofboeaaGreatME25
import Derived.Test.YteaocbonofboeaaGreatME29
set_option linter.unusedVariables false
set_option linter.unusedSimpArgs false
set_option maxHeartbeats 8000000
set_option maxRecDepth 100000
section
namespace Go.Proofs.YteaocbonofboeaaGreat.CodecP
open Go.RowKit Go.Proofs.YteaocbonofboeaaGreat.C Go.Proofs.YteaocbonofboeaaGreatW.PrintWords Go.Proofs.YteaocbonofboeaaGreatW.PrintLast Go.Proofs.YteaocbonofboeaaGreatW.PrintMore
theorem seal_formI{b:List Int}(hb:Bytes b):∃z,Qml b=z++[0]∧Free z:=⟨_,rfl,(Qwm _ _ (Nat.le_refl _) (hb.app (Qws 8 _))).1⟩
theorem head_sealI{e s:Int}(hG:Good e s){n:Int}(h0:0≤n)(h1:n<s):∃z,Qmq e s n=z++[0]∧Free z:=by
 obtain⟨a,b,c,d⟩:=hG;refine seal_formI (Bytes.app (Bytes.app ?_ (Qww s (by omega) (by omega))) (Qww n h0 (by omega)));intro x hx;simp at hx;omega
theorem cutP_free(sg:Int):∀(z:List Int) (fr at_:Int),Free z→cutP sg fr at_ z=[]
 | [],_,_,_=>rfl
 | x :: z,fr,at_,h=>by
  rw[cutP,if_neg (h x (List.mem_cons_self ..))];exact cutP_free sg z fr (at_+1) (fun y hy=>h y (List.mem_cons_of_mem _ hy))
theorem cutP_chunk(sg:Int)(R:List Int):∀(z:List Int) (fr at_:Int),Free z→cutP sg fr at_ (z++0 :: R)=(sg,fr,at_+(z.length:Int)) :: cutP sg (at_+(z.length:Int)+1) (at_+(z.length:Int)+1) R
 | [],fr,at_,_=>by
  rw[List.nil_append,cutP,if_pos rfl];simp
 | x :: z,fr,at_,h=>by
  rw[List.cons_append,cutP,if_neg (h x (List.mem_cons_self ..)),cutP_chunk sg R z fr (at_+1) (fun y hy=>h y (List.mem_cons_of_mem _ hy)),List.length_cons,show at_+1+(z.length:Int)=at_+((z.length+1:Nat):Int)by omega]
theorem recO_rec{z:List Int}{r:Rec}(h:okR r)(e:z++[0]=Qvs r):recO z=some r:=by
 unfold recO;have g:∃r,okR r∧z++[0]=Qvs r:=⟨r,h,e⟩;rw[dif_pos g];have c:=g.choose_spec;have:=Qxb (x:=[]) (y:=[]) c.1 h (by rw[List.append_nil,List.append_nil,← c.2,e]);rw[this.1]
theorem recO_no{z:List Int}(h:∀r,okR r→z++[0]≠Qvs r):recO z=none:=by
 unfold recO;rw[dif_neg (fun ⟨r,a,b⟩=>h r a b)]
theorem frame_form{r:Rec}(h:okR r):∃z,Qvs r=z++[0]∧Free z:=seal_formI (Qxa h)
theorem head_no{e s n:Int}(he:0≤e∧e<256)(hs:0≤s∧s<4294967296)(hn:0≤n∧n<4294967296){r:Rec}(h:okR r):Qmq e s n≠Qvs r:=by
 intro e1;have hb:Bytes ([1,2,e]++vput 9 s++vput 9 n):=by
  refine Bytes.app (Bytes.app ?_ (Qww s (by omega) (by omega))) (Qww n (by omega) (by omega));intro x hx;simp at hx;omega
 have h1:=(Qwt (x:=[]) (y:=[]) hb (Qxa h) (by rw[List.append_nil,List.append_nil];exact e1)).1;unfold Qlm at h1;simp only[List.cons_append,List.nil_append,List.append_assoc]at h1;have h2:=(List.cons.inj h1).1;split at h2<;>omega
theorem fndC_at{L:List Int}{n sg f:Nat}{z Y:List Int}(h:L.drop (sg*n+f)=z++Y):fndC L n ((sg:Int),(f:Int),(f:Int)+(z.length:Int))=fndO (recO z) (sg:Int) (f:Int) ((f:Int)+(z.length:Int)):=by
 unfold fndC Qyj;dsimp only;rw[Int.toNat_natCast,Int.toNat_natCast,show((f:Int)+(z.length:Int)-(f:Int)).toNat=z.length by omega,h,List.take_left]
def fdG(sg:Nat):Nat→List Rec→List C.Fd
 | _,[]=>[]
 | off,r :: g=>(⟨r,(sg:Int),(off:Int),((Qvs r).length:Int)⟩:C.Fd) :: fdG sg (off+(Qvs r).length) g
theorem fdG_snoc(sg:Nat):∀(g:List Rec) (off:Nat) (r:Rec),fdG sg off (g++[r])=fdG sg off g++[(⟨r,(sg:Int),((off+(g.flatMap Qvs).length:Nat):Int),((Qvs r).length:Int)⟩:C.Fd)]
 | [],off,r=>by simp[fdG]
 | x :: g,off,r=>by
  rw[List.cons_append,fdG,fdG,fdG_snoc sg g,List.cons_append,List.flatMap_cons,List.length_append,Nat.add_assoc]
def fdP(e s:Int):Nat→List (List Rec)→List C.Fd
 | _,[]=>[]
 | sg,g :: ps=>fdG sg (Qmq e s (sg:Int)).length g++fdP e s (sg+1) ps
theorem cut_frames(L:List Int)(n sg:Nat):∀(g:List Rec) (T:List Int) (a:Nat) (Y:List Int),(∀r∈g,okR r)→L.drop (sg*n+a)=(g.flatMap Qvs++T)++Y →
  (cutP (sg:Int) (a:Int) (a:Int) (g.flatMap Qvs++T)).flatMap (fndC L n)=fdG sg a g++(cutP (sg:Int) ((a+(g.flatMap Qvs).length:Nat):Int) ((a+(g.flatMap Qvs).length:Nat):Int) T).flatMap (fndC L n)
 | [],T,a,Y,_,_=>by simp[fdG]
 | r :: g,T,a,Y,hg,hL=>by
  have hr:=hg r (List.mem_cons_self ..);obtain⟨z,hz,hf⟩:=frame_form hr;have hlen:(Qvs r).length=z.length+1:=by rw[hz,List.length_append];rfl
  have hL':L.drop (sg*n+a)=z++(0 :: ((g.flatMap Qvs++T)++Y)):=by
   rw[hL,List.flatMap_cons,hz];simp only[List.append_assoc,List.singleton_append,List.cons_append,List.nil_append]
  have hnext:L.drop (sg*n+(a+z.length+1))=(g.flatMap Qvs++T)++Y:=by
   rw[show sg*n+(a+z.length+1)=sg*n+a+(z.length+1)by omega,← List.drop_drop,hL',show z.length+1=(z++[0]).length by simp,show z++(0 :: ((g.flatMap Qvs++T)++Y))=(z++[0])++((g.flatMap Qvs++T)++Y)by simp,List.drop_left]
  have ih:=cut_frames L n sg g T (a+z.length+1) Y (fun x hx=>hg x (List.mem_cons_of_mem _ hx)) hnext;have hs:(r :: g).flatMap Qvs++T=z++0 :: (g.flatMap Qvs++T):=by
   rw[List.flatMap_cons,hz];simp only[List.append_assoc,List.singleton_append,List.cons_append,List.nil_append]
  rw[hs,cutP_chunk _ _ z _ _ hf,List.flatMap_cons,fndC_at hL',recO_rec hr hz.symm,show(a:Int)+(z.length:Int)+1=((a+z.length+1:Nat):Int)by omega,ih];rw[fdG,hlen,show a+(z.length+1)=a+z.length+1 by omega,List.flatMap_cons,List.length_append,hlen,show a+(z.length+1+(g.flatMap Qvs).length)=a+z.length+1+(g.flatMap Qvs).length by omega];unfold fndO;rw[show(a:Int)+(z.length:Int)-(a:Int)+1=((z.length+1:Nat):Int)by omega];rfl
theorem seg_tails(e s n:Int)(g:List Rec)(b:Bool):∃(m:Nat) (F:List Int),(F=[]∨∃u l,F=Qoz u l)∧segB e s n g b=Qmq e s n++(g.flatMap Qvs++(F++List.replicate m 255)):=by
 unfold segB tailB;rw[part_frames]
 cases b with
 | true =>
  rw[if_pos rfl];generalize (szN e).toNat-(Qmq e s n++g.flatMap Qvs++Qoz (Qpg (partB e s n g)) (Qoe (partB e s n g).2.2)).length=m;exact⟨m,Qoz (Qpg (partB e s n g)) (Qoe (partB e s n g).2.2),.inr ⟨_,_,rfl⟩,by simp only[List.append_assoc]⟩
 | false =>
  rw[if_neg (by simp),List.append_nil];generalize (szN e).toNat-(Qmq e s n++g.flatMap Qvs).length=m;exact⟨m,[],.inl rfl,by simp only[List.append_assoc,List.nil_append]⟩
theorem rep_free(m:Nat):Free (List.replicate m (255:Int)):=fun x hx=>by have:=List.eq_of_mem_replicate hx;omega
theorem foot_form(u:Int)(l:List Ent):∃z,Qoz u l=z++[0]∧Free z:=by
 refine seal_formI ?_;refine Bytes.app (Bytes.app (Bytes.app (Bytes.app ?_ (Qws 4 _)) (Qws 4 _)) (Qxd _ Qxc l)) (Qxd _ (fun x=>Qws 8 x) _);intro y hy
 rcases List.mem_singleton.1 hy with rfl
 omega
theorem cut_seg{e s:Int}(hG:Good e s)(m:Nat)(hm:(m:Int)<s)(g:List Rec)(hg:∀r∈g,okR r)(b:Bool)(L:List Int)(n:Nat)(Y:List Int)(h:L.drop (m*n)=segB e s (m:Int) g b++Y) :
  (cutP (m:Int) 0 0 (segB e s (m:Int) g b)).flatMap (fndC L n)=fdG m (Qmq e s (m:Int)).length g:=by
 obtain⟨q,F,hF,hseg⟩:=seg_tails e s (m:Int) g b;obtain⟨g1,g2,g3,g4⟩:=hG;obtain⟨zh,hzh,hfh⟩:=head_sealI ⟨g1,g2,g3,g4⟩ (n:=(m:Int)) (by omega) hm;have hlen:(Qmq e s (m:Int)).length=zh.length+1:=by rw[hzh,List.length_append];rfl
 have hhd:∀r,okR r→zh++[0]≠Qvs r:=fun r hr=>by rw[← hzh];exact head_no (by omega) (by omega) (by omega) hr
 have h0:L.drop (m*n+0)=zh++(0 :: ((g.flatMap Qvs++(F++List.replicate q 255))++Y)):=by
  rw[Nat.add_zero,h,hseg,hzh];simp only[List.append_assoc,List.singleton_append,List.cons_append,List.nil_append]
 have h1:L.drop (m*n+(zh.length+1))=(g.flatMap Qvs++(F++List.replicate q 255))++Y:=by
  rw[← List.drop_drop,← Nat.add_zero (m*n),h0,show zh.length+1=(zh++[0]).length by simp,show zh++(0 :: ((g.flatMap Qvs++(F++List.replicate q 255))++Y))=(zh++[0])++((g.flatMap Qvs++(F++List.replicate q 255))++Y)by simp,List.drop_left]
 have hs:segB e s (m:Int) g b=zh++0 :: (g.flatMap Qvs++(F++List.replicate q 255)):=by
  rw[hseg,hzh];simp only[List.append_assoc,List.singleton_append,List.cons_append,List.nil_append]
 have hc:=fndC_at (f:=0) h0;rw[hs,cutP_chunk _ _ zh _ _ hfh,List.flatMap_cons];have hc':fndC L n ((m:Int),(0:Int),(0:Int)+(zh.length:Int))=[]:=by
  refine Eq.trans hc ?_;rw[recO_no hhd];rfl
 rw[hc',List.nil_append,show(0:Int)+(zh.length:Int)+1=((zh.length+1:Nat):Int)by omega,cut_frames L n m g _ _ Y hg h1,hlen];have hend:(cutP (m:Int) ((zh.length+1+(g.flatMap Qvs).length:Nat):Int) ((zh.length+1+(g.flatMap Qvs).length:Nat):Int) (F++List.replicate q 255)).flatMap (fndC L n)=[]:=by
  rcases hF with rfl |⟨u,l,rfl⟩
  ·rw[List.nil_append,cutP_free _ _ _ _ (rep_free q)];rfl
  ·obtain⟨zf,hzf,hff⟩:=foot_form u l;have hs2:Qoz u l++List.replicate q 255=zf++0 :: List.replicate q 255:=by
    rw[hzf];simp only[List.append_assoc,List.singleton_append,List.cons_append,List.nil_append]
   have h2:L.drop (m*n+(zh.length+1+(g.flatMap Qvs).length))=zf++(0 :: (List.replicate q 255++Y)):=by
    rw[← Nat.add_assoc,← List.drop_drop,h1,hs2];rw[show g.flatMap Qvs++(zf++0 :: List.replicate q 255)++Y=g.flatMap Qvs++(zf++(0 :: (List.replicate q 255++Y)))by simp,List.drop_left]
   rw[hs2,cutP_chunk _ _ zf _ _ hff,List.flatMap_cons,fndC_at h2,cutP_free _ _ _ _ (rep_free q),recO_no (fun r hr=>by rw[← hzf];intro e1;exact Qxe u l [] r [] hr (by rw[List.append_nil,List.append_nil];exact e1))];rfl
 rw[hend,List.append_nil]
theorem imgP_cons(e s:Int)(n:Int)(g:List Rec)(t:List (List Rec)):∃b,imgP e s n (g :: t)=segB e s n g b++imgP e s (n+1) t:=by
 cases t with
 | nil=>exact⟨false,by simp[imgP]⟩
 | cons h t=>exact⟨true,rfl⟩
theorem cut_img{e s:Int}(hG:Good e s)(L:List Int):∀(ps:List (List Rec)) (m:Nat),m≤1000000→AllG e s (m:Int) ps→(∀g∈ps,∀r∈g,okR r)→L.drop (m*(szN e).toNat)=imgP e s (m:Int) ps →
  (cutA (ksOf (szN e).toNat m 0 0) (imgP e s (m:Int) ps)).1.flatMap (fndC L (szN e).toNat)=fdP e s m ps
 | [],m,_,_,_,_=>by simp[imgP,cutA,fdP]
 | g :: t,m,hm,hA,hr,hL=>by
  obtain⟨hA1,hA2⟩:=hA;have hsz:=Quv hG.1 hG.2.1;obtain⟨b,hb⟩:=imgP_cons e s (m:Int) g t;have hls:=seg_len hG hA1 b;have hms:(m:Int)<s:=hA1.2.1;have hs6:=hG.2.2.2;have h1:=cut_seg hG m hms g (hr g (List.mem_cons_self ..)) b L (szN e).toNat (imgP e s ((m:Int)+1) t) (by rw[hL,hb]);have hpc:=cutA_piece (szN e).toNat m (by omega) (imgP e s ((m:Int)+1) t) (segB e s (m:Int) g b) 0 0 (by omega) (by omega);have h2:L.drop ((m+1)*(szN e).toNat)=imgP e s ((m:Int)+1) t:=by
   rw[Nat.succ_mul,← List.drop_drop,hL,hb,← hls,List.drop_left]
  have ih:=cut_img hG L t (m+1) (by omega) hA2 (fun x hx=>hr x (List.mem_cons_of_mem _ hx)) h2;rw[hb,hpc,List.flatMap_append];unfold fdP;have h1':(cutP (m:Int) ((0:Nat):Int) ((0:Nat):Int) (segB e s (m:Int) g b)).flatMap (fndC L (szN e).toNat)=fdG m (Qmq e s (m:Int)).length g:=h1;rw[h1'];exact congrArg _ ih
theorem allF_img{e s:Int}(hG:Good e s)(ps:List (List Rec))(hA:AllG e s 0 ps)(hr:∀g∈ps,∀r∈g,okR r):allF (szN e) (imgP e s 0 ps)=fdP e s 0 ps:=by
 have hsz:=Quv hG.1 hG.2.1;have hn:nOf (szN e)=(szN e).toNat:=by unfold nOf;rw[if_pos (by omega)]
 unfold allF;rw[hn];exact cut_img hG (imgP e s 0 ps) ps 0 (by omega) hA hr (by simp)
def zipF:List Plc→List Rec→List C.Fd
 | p :: ps,r :: l=>(⟨r,p.f0,p.f1,((Qvs r).length:Int)⟩:C.Fd) :: zipF ps l
 | _,_=>[]
theorem fdP_places(e s:Int)(into:List Int):∀(rs cur:List Rec) (i m:Nat),cur≠[]→1≤i→rd into ((i:Int)-1)=(m:Int)→StepsI into rs.length i (m:Int)→(cur.flatMap Qvs).length+(rs.flatMap Qvs).length≤1000000000 →
  fdP e s m (partsS into i rs cur)=fdG m (Qmq e s (m:Int)).length cur++zipF (Qwe e s (some (m:Int)) (Quo e s (m:Int)+((cur.flatMap Qvs).length:Int)) (into.drop i) (rs.map fsz)) rs
 | [],cur,i,m,hc,hi,hp,hst,hb=>by
  rw[partsS,fdP,fdP,List.append_nil]
  cases into.drop i<;>simp[Qwe,zipF]
 | r :: rs,cur,i,m,hc,hi,hp,hst,hb=>by
  obtain⟨hi2,hst2⟩:=hst;rw[List.flatMap_cons,List.length_append]at hb;have hh:=Quq e s (m:Int);rw[partsS,List.drop_eq_getElem_cons hi2,List.map_cons,Qwe,zipF,← rd_get hi2]
  rcases hst2 with⟨hm,hst3⟩ |⟨hm,hst3⟩
  ·rw[if_pos (by rw[hm,hp]),hm,if_pos rfl];have hb2:((cur++[r]).flatMap Qvs).length=(cur.flatMap Qvs).length+(Qvs r).length:=by simp
   have ih:=fdP_places e s into rs (cur++[r]) (i+1) m (by simp) (by omega) (by rw[show((i+1:Nat):Int)-1=(i:Int)by omega];exact hm) hst3 (by rw[hb2];omega);rw[ih,fdG_snoc,List.append_assoc,hb2];have hN:(Quo e s (m:Int)+((cur.flatMap Qvs).length:Int))%4294967296=(((Qmq e s (m:Int)).length+(cur.flatMap Qvs).length:Nat):Int):=by
    have:Quo e s (m:Int)=((Qmq e s (m:Int)).length:Int):=rfl;omega
   dsimp only;rw[hN,show Quo e s (m:Int)+(((cur.flatMap Qvs).length+(Qvs r).length:Nat):Int)=Quo e s (m:Int)+((cur.flatMap Qvs).length:Int)+fsz r by unfold fsz;omega];rfl
  ·rw[if_neg (by rw[hm,hp];omega),hm,if_neg (by intro h;have:=Option.some.inj h;omega)];have hh2:=Quq e s ((m:Int)+1);have ih:=fdP_places e s into rs [r] (i+1) (m+1) (by simp) (by omega) (by rw[show((i+1:Nat):Int)-1=(i:Int)by omega];exact hm) hst3 (by rw[show [r].flatMap Qvs=Qvs r by simp];omega);rw[fdP,ih];have hN:Quo e s ((m:Int)+1)%4294967296=((Qmq e s ((m+1:Nat):Int)).length:Int):=by
    have:Quo e s ((m:Int)+1)=((Qmq e s ((m+1:Nat):Int)).length:Int):=rfl;omega
   dsimp only;rw[hN,fdG,fdG,show([r].flatMap Qvs)=Qvs r by simp];rfl
theorem img_places{e s:Int}{into:List Int}{l:List Rec}(hl:l≠[]→rd into 0=0∧StepsI into (l.length-1) 1 0)(hil:into.length=l.length)(hb:(l.flatMap Qvs).length≤1000000000) :
  fdP e s 0 (partsOf into l)=zipF (Qwe e s none 0 into (l.map fsz)) l:=by
 cases l with
 | nil=>cases into<;>simp[partsOf,fdP,zipF,Qwe]
 | cons r rs =>
  obtain⟨h0,hst⟩:=hl (by simp);have hi:0<into.length:=by rw[hil];simp
  have hh:=Quq e s 0;rw[List.flatMap_cons,List.length_append]at hb;have h1:=fdP_places e s into rs [r] 1 0 (by simp) (by omega) (by simpa using h0) (by simpa using hst) (by rw[show [r].flatMap Qvs=Qvs r by simp];omega);unfold partsOf;rw[h1];have hc:into=0 :: into.drop 1:=by
   have:=List.drop_eq_getElem_cons hi;rw[List.drop_zero,← rd_get hi]at this;rw[show((0:Nat):Int)=0 from rfl,h0]at this;exact this
  rw[List.map_cons];rw[hc,Qwe,zipF,if_neg (by simp)];have hN:Quo e s 0%4294967296=((Qmq e s ((0:Nat):Int)).length:Int):=by
   have:Quo e s 0=((Qmq e s ((0:Nat):Int)).length:Int):=rfl;omega
  dsimp only;rw[hN,fdG,fdG,show([r].flatMap Qvs)=Qvs r by simp];rfl
theorem zip_places(e s:Int):∀(l:List Rec) (into:List Int) (prev:Option Int) (at_:Int),into.length=l.length→(Qwe e s prev at_ into (l.map fsz)).length=l.length
 | [],into,prev,at_,h=>by cases into<;>simp[Qwe]
 | r :: l,[],prev,at_,h=>by simp at h
 | r :: l,x :: into,prev,at_,h=>by
  rw[List.map_cons,Qwe,List.length_cons,zip_places e s l into _ _ (by simpa using h),List.length_cons]
theorem zipF_at:∀(ps:List Plc) (l:List Rec),ps.length=l.length→(zipF ps l).length=l.length∧∀j (h:j<(zipF ps l).length) (h1:j<ps.length) (h2:j<l.length),(zipF ps l)[j]=(⟨l[j],ps[j].f0,ps[j].f1,((Qvs l[j]).length:Int)⟩:C.Fd)
 | [],[],_=>⟨rfl,fun j h=>by simp[zipF]at h⟩
 | [],_ :: _,h=>by simp at h
 | _ :: _,[],h=>by simp at h
 | p :: ps,r :: l,h=>by
  obtain⟨i1,i2⟩:=zipF_at ps l (by simpa using h);refine⟨by simp[zipF,i1],fun j h h1 h2=>?_⟩
  cases j with
  | zero=>rfl
  | succ j=>exact i2 j (by simpa [zipF]using h) (by simpa using h1) (by simpa using h2)
theorem rd_Fd(X:List C.Fd)(j:Nat)(hj:j<X.length):Qjb X (j:Int)=X[j]:=by
 unfold Qjb;rw[Int.toNat_natCast,List.getD_eq_getElem?_getD,List.getElem?_eq_getElem hj];rfl
theorem recs_l0(x:List C.Fd)(hx:x.length≤1000000):∀(d j k:Nat) (out:List Rec),j+d=x.length→out.length+d≤1000000→Qcl.l0 (k+d+1) out x (x.length:Int) (j:Int)=some (out++(x.drop j).map (fun f=>f.f0))
 | 0,j,k,out,hd,ho=>by
  unfold Qcl.l0;rw[if_neg (by omega),List.drop_of_length_le (by omega)];simp
 | d+1,j,k,out,hd,ho=>by
  have hj:j<x.length:=by omega
  unfold Qcl.l0;rw[if_pos (by omega),if_pos (by omega),if_pos (by omega),if_pos (by omega),Qub j (by omega),show k+(d+1)=k+d+1 by omega,rd_Fd x j hj];refine Eq.trans (recs_l0 x hx d (j+1) k (out++[x[j].f0]) (by omega) (by simp only[List.length_append,List.length_singleton];omega)) ?_;rw[List.drop_eq_getElem_cons hj,List.map_cons,List.append_assoc,List.singleton_append]
theorem recs_is(x:List C.Fd)(hx:x.length≤1000000)(k:Nat)(hk:x.length+1≤k):Qcl.f k x=some (x.map (fun f=>f.f0)):=by
 unfold Qcl.f;have h:=recs_l0 x hx x.length 0 (k-x.length-1) [] (by omega) qq_30;rw[show k-x.length-1+x.length+1=k by omega,List.drop_zero,List.nil_append]at h;exact h
theorem rsame_l0(a:List Rec)(hl:a.length≤1000000):∀(d j k:Nat),j+d=a.length→Qbo.l0 (k+d+1) a a (a.length:Int) (j:Int)=some true
 | 0,j,k,hd=>by
  unfold Qbo.l0;rw[if_neg (by omega)]
 | d+1,j,k,hd=>by
  have hj:j<a.length:=by omega
  unfold Qbo.l0;rw[if_pos (by omega),if_pos (by omega),if_pos (by omega),if_pos (by omega),if_neg (by simp),Qub j (by omega),show k+(d+1)=k+d+1 by omega];exact rsame_l0 a hl d (j+1) k (by omega)
theorem rsame_is(a:List Rec)(hl:a.length≤1000000)(k:Nat)(hk:a.length+1≤k):Qbo.f k a a=some true:=by
 unfold Qbo.f;rw[if_pos rfl];have h:=rsame_l0 a hl a.length 0 (k-a.length-1) (by omega);rw[show k-a.length-1+a.length+1=k by omega]at h;exact h
theorem zipF_recs:∀(ps:List Plc) (l:List Rec),ps.length=l.length→(zipF ps l).map (fun f=>f.f0)=l
 | [],[],_=>rfl
 | [],_ :: _,h=>by simp at h
 | _ :: _,[],h=>by simp at h
 | p :: ps,r :: l,h=>by
  rw[zipF,List.map_cons,zipF_recs ps l (by simpa using h)]
theorem AllG.lenJ{e s:Int}:∀ {ps:List (List Rec)} {n:Int},0≤n→n≤s→AllG e s n ps→(ps.length:Int)+n≤s
 | [],n,_,h,_=>by simpa using h
 | g :: t,n,h0,_,h=>by
  have:=AllG.lenJ (ps:=t) (n:=n+1) (by omega) (by have:=h.1.2.1;omega) h.2;rw[List.length_cons];omega
theorem lastE_id(i:Nat):∀(E:List Ed) (v:Int),(∀e∈E,e.f0≠(i:Int))→lastE i v E=v
 | [],v,_=>rfl
 | e :: E,v,h=>by
  show lastE i (if e.f0=(i:Int)then e.f1 else v) E=v;rw[if_neg (h e (List.mem_cons_self ..))];exact lastE_id i E v (fun x hx=>h x (List.mem_cons_of_mem _ hx))
def hurt(b:List Int)(E:List Ed)(c:Int):List Int:=(setE b E).take (leftN c b.length)
theorem und_at(b:List Int)(E:List Ed)(c:Int)(hw:wfEd E)(i:Nat)(hi:i<b.length)(h:damB c E i=false):(hurt b E c)[i]? = b[i]?∧i<(hurt b E c).length:=by
 have hn:¬((0≤c∧c≤(i:Int))∨∃e∈E,e.f0=(i:Int)):=fun g=>by
  have:=(damB_iff c E i).2 g;rw[this]at h
  cases h
 have hl:i<leftN c b.length:=by
  unfold leftN;split
  ·exact hi
  ·split
   ·have:¬(0≤c∧c≤(i:Int)):=fun g=>hn (.inl g)
    omega
   ·exact hi
 unfold hurt;refine⟨?_,by rw[List.length_take,setE_len];omega⟩;rw[List.getElem?_take_of_lt hl,setE_at E b i hi hw,lastE_id i E _ (fun e he g=>hn (.inr ⟨e,he,g⟩)),List.getElem?_eq_getElem hi]
theorem hurt_bytes(b:List Int)(hb:Bytes b)(E:List Ed)(hw:wfEd E)(c:Int):Bytes (hurt b E c):=by
 have h:∀(E:List Ed) (o:List Int),Bytes o→wfEd E→Bytes (setE o E):=by
  intro E
  induction E with
  | nil=>intro o ho _;exact ho
  | cons e E ih =>
   intro o ho hw;refine ih (stepE o e) ?_ (fun x hx=>hw x (List.mem_cons_of_mem _ hx));unfold stepE;split
   ·intro x hx
    rcases List.mem_or_eq_of_mem_set hx with g|g
    ·exact ho x g
    ·rw[g];exact(hw e (List.mem_cons_self ..)).2
   ·exact ho
 exact fun x hx=>h E b hb hw x (List.mem_of_mem_take hx)
theorem hurt_len(b:List Int)(E:List Ed)(c:Int):(hurt b E c).length≤b.length:=by
 unfold hurt;rw[List.length_take,setE_len];omega
theorem tgt_self(L:List Int)(n:Nat):∀(l pre:List Int) (sg at_ fr:Nat),L=pre++l→L.length≤1000000→fr≤at_→at_<n→pre.length=sg*n+at_→(fr=0∨L[sg*n+fr-1]? = some 0)→(∀i,fr≤i→i<at_→L[sg*n+i]?≠some 0)→Tgt n L (sg*n+at_) (cutA (ksOf n sg at_ fr) l).1
 | [],pre,sg,at_,fr,_,_,_,_,_,_,_=>by simp[cutA,Tgt]
 | x :: l,pre,sg,at_,fr,hL,hLl,hp1,hp2,hlen,hb1,hb2=>by
  have hLlen:L.length=pre.length+(l.length+1):=by rw[hL,List.length_append,List.length_cons]
  have hsgn:sg≤sg*n:=Nat.le_mul_of_pos_right _ (by omega);have hnext:L=(pre++[x])++l:=by rw[hL];simp
  have hpl:(pre++[x]).length=sg*n+at_+1:=by rw[List.length_append];simp only[List.length_singleton];omega
  have hmul:(sg+1)*n=sg*n+n:=Nat.succ_mul _ _;have hxat:L[sg*n+at_]? = some x:=by
   rw[hL,← hlen,List.getElem?_append_right (Nat.le_refl _)];simp
  rw[cutA_step n sg at_ fr x l (by omega)];have hrest:Tgt n L (sg*n+at_+1) (cutA (if at_+1=n then ksOf n (sg+1) 0 0 else ksOf n sg (at_+1) (if x=0 then at_+1 else fr)) l).1:=by
   by_cases hw:at_+1=n
   ·rw[if_pos hw];exact Tgt.low (by omega) (tgt_self L n l (pre++[x]) (sg+1) 0 0 hnext hLl (Nat.le_refl _) (by omega) (by omega) (.inl rfl) (fun i h1 h2=>by omega))
   ·rw[if_neg hw]
    by_cases hx:x=0
    ·rw[if_pos hx];exact Tgt.low (by omega) (tgt_self L n l (pre++[x]) sg (at_+1) (at_+1) hnext hLl (Nat.le_refl _) (by omega) (by omega) (.inr (by rw[show sg*n+(at_+1)-1=sg*n+at_ by omega,hxat,hx])) (fun i h1 h2=>by omega))
    ·rw[if_neg hx];refine Tgt.low (by omega) (tgt_self L n l (pre++[x]) sg (at_+1) fr hnext hLl (by omega) (by omega) (by omega) hb1 (fun i h1 h2=>?_))
     by_cases hi:i=at_
     ·rw[hi,hxat];intro e;exact hx (Option.some.inj e)
     ·exact hb2 i h1 (by omega)
  by_cases hx:x=0
  ·rw[if_pos hx,List.singleton_append];exact⟨sg,fr,at_,rfl,Nat.le_refl _,by omega,by rw[hxat,hx],⟨hp1,hp2,hb1,hb2⟩,hrest⟩
  ·rw[if_neg hx,List.nil_append];exact Tgt.low (by omega) hrest
theorem anyD_no{c:Int}{E:List Ed}{a d:Nat}(h:anyD c E a d=false)(i:Nat)(h1:a≤i)(h2:i<a+d):damB c E i=false:=by
 cases g:damB c E i with
 | false=>rfl
 | true =>
  have:=(anyD_iff c E d a).2 ⟨i,h1,h2,g⟩;rw[this]at h
  cases h
theorem take_same{L L':List Int}{a d:Nat}(h:∀i,a≤i→i<a+d→L'[i]? = L[i]?):(L'.drop a).take d=(L.drop a).take d:=by
 apply List.ext_getElem?;intro i
 by_cases hi:i<d
 ·rw[List.getElem?_take_of_lt hi,List.getElem?_take_of_lt hi,List.getElem?_drop,List.getElem?_drop];exact h (a+i) (by omega) (by omega)
 ·rw[List.getElem?_take_eq_none (by omega),List.getElem?_take_eq_none (by omega)]
theorem mem_tgt{n:Nat}{L:List Int}:∀(T:List Ck) (lo:Nat),Tgt n L lo T→∀c∈T,Tgt n L 0 [c]
 | k :: T,lo,h,c,hc=>by
  obtain⟨s,f,t,h1,h2,h3,h4,h5,h6⟩:=h
  rcases List.mem_cons.1 hc with rfl|hc
  ·exact⟨s,f,t,h1,Nat.zero_le _,h3,h4,h5,trivial⟩
  ·exact mem_tgt T _ h6 c hc
def befF(f:Nat):Nat:=if f=0 then 0 else 1
theorem other_found(a0:Int)(L:List Int)(hL:L.length≤1000000)(E:List Ed)(hw:wfEd E)(c:Int)(x:C.Fd)(hx:x∈allF a0 (hurt L E c)) :
  ∃s f m:Nat,x.f1=(s:Int)∧x.f2=(f:Int)∧x.f3=(m:Int)∧s*nOf a0+f+m≤L.length∧f+m≤nOf a0∧(anyD c E (s*nOf a0+f-befF f) (m+befF f)=false→x∈allF a0 L):=by
 have hn:0<nOf a0:=by unfold nOf;split<;>omega
 have hlen:=hurt_len L E c;have h:=tgt_self (hurt L E c) (nOf a0) (hurt L E c) [] 0 0 0 rfl (by omega) (Nat.le_refl _) hn (by simp) (.inl rfl) (fun i h1 h2=>by omega);unfold allF at hx;obtain⟨k,hk,hxk⟩:=List.mem_flatMap.1 hx;have hT:=mem_tgt _ _ h k hk;obtain⟨s,f,t,hks,_,h3,h4,⟨h5,h6,h7,h8⟩,_⟩:=hT;have hf:fndC (hurt L E c) (nOf a0) k=fndO (recO (Qyj (hurt L E c) (nOf a0) k)) (s:Int) (f:Int) (t:Int):=by unfold fndC;rw[hks]
 rw[hf]at hxk
 cases hr:recO (Qyj (hurt L E c) (nOf a0) k)with
 | none =>
  rw[hr]at hxk;simp[fndO]at hxk
 | some r =>
  rw[hr]at hxk;have hxe:x=(⟨r,(s:Int),(f:Int),(t:Int)-(f:Int)+1⟩:C.Fd):=by simpa [fndO]using hxk
  refine⟨s,f,t-f+1,by rw[hxe],by rw[hxe],by rw[hxe];show(t:Int)-(f:Int)+1=_;omega,by omega,by omega,fun hany=>?_⟩;have hund:∀i,s*nOf a0+f-befF f≤i→i≤s*nOf a0+t→(hurt L E c)[i]? = L[i]?:=fun i g1 g2=>(und_at L E c hw i (by omega) (anyD_no hany i g1 (by unfold befF at g1 ⊢;split<;>rename_i hz<;>simp only[hz,if_true,if_false]at g1<;>omega))).1
  have hin:∀i,f≤i→i≤t→(hurt L E c)[s*nOf a0+i]? = L[s*nOf a0+i]?:=fun i g1 g2=>hund _ (by omega) (by omega)
  have hb:Qyj (hurt L E c) (nOf a0) k=Qyj L (nOf a0) k:=by
   rw[hks];unfold Qyj;dsimp only;rw[Int.toNat_natCast,Int.toNat_natCast,show((t:Int)-(f:Int)).toNat=t-f by omega];refine take_same (fun i g1 g2=>?_);have:=hin (i-s*nOf a0) (by omega) (by omega);rw[show s*nOf a0+(i-s*nOf a0)=i by omega]at this;exact this
  have hTL:Tgt (nOf a0) L 0 [k]:=by
   refine⟨s,f,t,hks,Nat.zero_le _,by omega,by rw[← hin t h5 (Nat.le_refl _)];exact h4,⟨h5,h6,?_,fun i g1 g2=>by rw[← hin i g1 (by omega)];exact h8 i g1 g2⟩,trivial⟩
   rcases h7 with g|g
   ·exact .inl g
   ·by_cases hf0:f=0
    ·exact .inl hf0
    ·exact .inr (by rw[← hund (s*nOf a0+f-1) (by unfold befF;rw[if_neg hf0];omega) (by omega)];exact g)
  have hsub:=tgt_found a0 L hL [k] hTL;rw[List.flatMap_cons,List.flatMap_nil,List.append_nil]at hsub;refine hsub.subset ?_;unfold fndC;rw[← hb,hr,hks,hxe];simp[fndO]
theorem hurt_none(L:List Int):hurt L [] (-1)=L:=by
 unfold hurt leftN;rw[if_pos (by omega),show setE L []=L from rfl,List.take_length]
end Go.Proofs.YteaocbonofboeaaGreat.CodecP
end
section
namespace Go.Proofs.YteaocbonofboeaaGreat.Pure
open Go.RowKit Go.Proofs.YteaocbonofboeaaGreat.C Go.Proofs.YteaocbonofboeaaGreat.CodecP Go.Proofs.YteaocbonofboeaaGreatW.PrintWords Go.Proofs.YteaocbonofboeaaGreatW.PrintLast Go.Proofs.YteaocbonofboeaaGreatW.PrintMore Go.Proofs.YteaocbonofboeaaGreat.Open
theorem wf_rowO{l:List Rec}(h:∀x∈l,OG37 x):Wf l:=by
 intro r hr;have h1:(Lit.int .u64 r.f1).wf=true:=(h r hr).2.1;simp only[Lit.wf,IntKind.min,IntKind.max,IntKind.signed,IntKind.bits,Bool.and_eq_true,decide_eq_true_eq]at h1;simp at h1;omega
theorem wf_u8O{x:Int}(h1:(Lit.int .u8 x).wf=true):0≤x∧x<256:=by
 simp only[Lit.wf,IntKind.min,IntKind.max,IntKind.signed,IntKind.bits,Bool.and_eq_true,decide_eq_true_eq]at h1;simp at h1;omega
theorem wf_u64O{x:Int}(h1:(Lit.int .u64 x).wf=true):0≤x∧x<18446744073709551616:=by
 simp only[Lit.wf,IntKind.min,IntKind.max,IntKind.signed,IntKind.bits,Bool.and_eq_true,decide_eq_true_eq]at h1;simp at h1;omega
theorem rdPlO(l:List Plc)(i:Nat)(h:i<l.length):Qjk l (i:Int)=l[i]:=by simp[Qjk,List.getElem?_eq_getElem h]
theorem shl_natO{e:Int}{s:Nat}(h1:12≤e)(h2:e≤24)(hs:s≤65536):shl .i64 (s:Int) e=((s*(szN e).toNat:Nat):Int):=by
 have hz:=Quv h1 h2;have hp:((s*(szN e).toNat:Nat):Int)=(s:Int)*szN e:=by rw[Int.natCast_mul,Int.toNat_of_nonneg (by omega)]
 have hm:(s:Int)*szN e≤65536*16777216:=Int.mul_le_mul (by omega) hz.2 (by omega) (by omega);have hm0:=Int.mul_nonneg (show(0:Int)≤(s:Int)by omega) (show 0≤szN e by omega);unfold shl;have he:min e.toNat IntKind.i64.bits=e.toNat:=by simp[IntKind.bits];omega
 rw[he,hp];exact IntWalk.i64_in _ (by unfold szN at hm hm0;omega)
theorem shl_oneO{e:Int}(h1:12≤e)(h2:e≤24):shl .i64 1 e=szN e:=by
 have h:=shl_natO (s:=1) h1 h2 (by omega);have hz:=Quv h1 h2;rw[Nat.one_mul,Int.toNat_of_nonneg (by omega)]at h;exact h
theorem frames_leO:∀l:List Rec,(∀r∈l,chkR r=0)→(l.flatMap Qvs).length≤l.length*8388608
 | [],_=>by simp
 | r :: l,h=>by
  have h1:=Qvv r (h r (List.mem_cons_self ..));have ih:=frames_leO l (fun x hx=>h x (List.mem_cons_of_mem _ hx));unfold fsz at h1;rw[List.flatMap_cons,List.length_append,List.length_cons];omega
noncomputable def endO(k:Nat)(img:List Int)(ps:List Plc)(l:List Rec)(q:Int)(X:List C.Fd)(i:Int)(E:List Ed)(c e s:Int)(f m:Int)(v:Bool):Option Bool :=
 if f > 0 then(if v=true then(Qay.l0 k l img ps X (X.length:Int) (wrap64 (i+1)) E c e s)else((Qas.f E c (img.length:Int) (wrap64 (q-1)) (wrap64 (q+m))).bind fun t=>(if t=true then(Qay.l0 k l img ps X (X.length:Int) (wrap64 (i+1)) E c e s)else(some false))))else(if v=true then(Qay.l0 k l img ps X (X.length:Int) (wrap64 (i+1)) E c e s)else((Qas.f E c (img.length:Int) q (wrap64 (q+m))).bind fun t=>(if t=true then(Qay.l0 k l img ps X (X.length:Int) (wrap64 (i+1)) E c e s)else(some false))))
theorem l1_runO(img:List Int)(ps:List Plc)(l:List Rec)(hl:l.length≤1000)(hps:ps.length=l.length)(q:Int)(X:List C.Fd)(i:Int)(E:List Ed)(c e s:Int)(x:C.Fd) :
  ∀(d j k:Nat) (w:Bool),j+d=l.length→∃v,Qay.l1 (k+d+1) l img ps q w X (X.length:Int) i l (l.length:Int) (j:Int) E c e s x.f0.f0 x.f0.f1 x.f0.f2 x.f0.f3 x.f1 x.f2 x.f3=endO k img ps l q X i E c e s x.f2 x.f3 v∧(w=true→v=true)∧∀n (h1:n<ps.length) (h2:n<l.length),j≤n→l[n]=x.f0→ps[n].f0=x.f1→ps[n].f1=x.f2→wrap64 x.f2=x.f2→v=true
 | 0,j,k,w,hd=>by
  refine⟨w,?_,fun h=>h,fun n h1 h2 h3=>by omega⟩;unfold Qay.l1;rw[if_neg (by omega)];rfl
 | d + 1,j,k,w,hd=>by
  have hj:j<l.length:=by omega
  have hj2:j<ps.length:=by omega
  unfold Qay.l1;rw[if_pos (by omega),if_pos (by omega),if_pos (by omega),Qub j (by omega),show k+(d+1)=k+d+1 by omega,rdR l j hj];have hstep:∀b:Bool,(∀(_:l[j]=x.f0) (_:ps[j].f0=x.f1) (_:ps[j].f1=x.f2) (_:wrap64 x.f2=x.f2),b=true)→(w=true→b=true)→∃v,Qay.l1 (k+d+1) l img ps q b X (X.length:Int) i l (l.length:Int) ((j+1:Nat):Int) E c e s x.f0.f0 x.f0.f1 x.f0.f2 x.f0.f3 x.f1 x.f2 x.f3=endO k img ps l q X i E c e s x.f2 x.f3 v∧(w=true→v=true)∧∀n (h1:n<ps.length) (h2:n<l.length),j≤n→l[n]=x.f0→ps[n].f0=x.f1→ps[n].f1=x.f2→wrap64 x.f2=x.f2→v=true:=by
   intro b hb hwb;obtain⟨v,g1,g2,g3⟩:=l1_runO img ps l hl hps q X i E c e s x d (j+1) k b (by omega);refine⟨v,g1,fun h=>g2 (hwb h),fun n h1 h2 h3 h4 h5 h6 h7=>?_⟩
   by_cases hn:n=j
   ·subst hn;exact g2 (hb h4 h5 h6 h7)
   ·exact g3 n h1 h2 (by omega) h4 h5 h6 h7
  cases w with
  | true =>
   rw[if_pos rfl];exact hstep true (fun _ _ _ _=>rfl) (fun h=>h)
  | false =>
   rw[if_neg (by simp)]
   by_cases hr:(l[j].f0 == x.f0.f0 && (l[j].f1 == x.f0.f1 && (l[j].f2.toList == x.f0.f2.toList && (l[j].f3.toList == x.f0.f3.toList))))=true
   ·rw[if_pos hr,if_pos (by omega),rdPlO ps j hj2]
    by_cases hp:wrap64 ps[j].f0=wrap64 x.f1
    ·rw[if_pos hp];exact hstep _ (fun _ _ h3 h4=>by rw[h3,h4];simp) (fun h=>by cases h)
    ·rw[if_neg hp];exact hstep false (fun _ h2 _ _=>absurd (by rw[h2]) hp) (fun h=>h)
   ·rw[if_neg hr];exact hstep false (fun h1 _ _ _=>absurd (by rw[h1];simp) hr) (fun h=>h)
theorem mem_zip{ps:List Plc}{l:List Rec}(hps:ps.length=l.length){x:C.Fd}(h:x∈zipF ps l):∃n,∃(h1:n<ps.length) (h2:n<l.length),l[n]=x.f0∧ps[n].f0=x.f1∧ps[n].f1=x.f2:=by
 obtain⟨z1,z2⟩:=zipF_at ps l hps;obtain⟨n,hn,he⟩:=List.mem_iff_getElem.1 h;refine⟨n,by omega,by omega,?_⟩;rw[z2 n hn (by omega) (by omega)]at he;subst he;exact⟨rfl,rfl,rfl⟩
theorem l0_runO(img:List Int)(hbt:Bytes img)(hN:img.length≤90000)(ps:List Plc)(l:List Rec)(hl:l.length≤1000)(hps:ps.length=l.length)(E:List Ed)(hE:E.length≤1000)(hw:wfEd E)(c e s:Int)(h1:12≤e)(h2:e≤24)(hal:allF (szN e) img=zipF ps l)(X:List C.Fd)(hX:X=allF (szN e) (hurt img E c)) :
  ∀(d i k:Nat),i+d=X.length→2000*(d+1)+9000000≤k→Qay.l0 k l img ps X (X.length:Int) (i:Int) E c e s=some true
 | 0,i,k,hd,hk=>by
  obtain⟨k,rfl⟩:∃m,k=m+1:=⟨k-1,by omega⟩;have hzl:=(zipF_at ps l hps).1;have happ:Qaq.f k img [] (-1)=some (hurt img [] (-1)):=app_is img (by omega) [] (by simp) (fun x hx=>(by cases hx)) (-1) k (by rw[List.length_nil];omega);unfold Qay.l0;rw[if_neg (by omega),happ,hurt_none,Option.bind_some,if_pos (by omega),shl_oneO h1 h2,Qym (szN e) _ hbt (by omega) k (by omega),Option.bind_some,hal,recs_is _ (by omega) k (by omega),Option.bind_some,zipF_recs ps l hps,rsame_is l (by omega) k (by omega),Option.bind_some]
 | d+1,i,k,hd,hk=>by
  obtain⟨k,rfl⟩:∃m,k=m+1:=⟨k-1,by omega⟩;have hi:i<X.length:=by omega
  have hz:=Quv h1 h2;have hn:nOf (szN e)=(szN e).toNat:=by unfold nOf;rw[if_pos (by omega)]
  obtain⟨sg,f,m,e1,e2,e3,e4,e5,e6⟩:=other_found (szN e) img (by omega) E hw c X[i] (by rw[← hX];exact List.getElem_mem hi);rw[hn]at e4 e5 e6;have hsg:sg*4096≤sg*(szN e).toNat:=Nat.mul_le_mul_left _ (by omega);unfold Qay.l0;rw[if_pos (by omega),if_pos (by omega),if_pos (by omega),if_pos (by omega),rd_Fd X i hi];have hq:wrap64 (shl .i64 (wrap64 X[i].f1) e+X[i].f2)=((sg*(szN e).toNat+f:Nat):Int):=by
   rw[e1,e2,w64_nat sg (by omega),shl_natO h1 h2 (by omega),← Int.natCast_add];exact w64_nat _ (by omega)
  rw[hq];obtain⟨v,g1,g2,g3⟩:=l1_runO img ps l hl hps ((sg*(szN e).toNat+f:Nat):Int) X (i:Int) E c e s X[i] l.length 0 (k-l.length-1) false (by omega);rw[show k-l.length-1+l.length+1=k by omega]at g1;refine Eq.trans g1 ?_;have hnext:Qay.l0 (k-l.length-1) l img ps X (X.length:Int) (wrap64 ((i:Int)+1)) E c e s=some true:=by
   rw[Qub i (by have:=congrArg List.length hX;have h9:=allF_len (szN e) (hurt img E c);have h8:=hurt_len img E c;omega)];exact l0_runO img hbt hN ps l hl hps E hE hw c e s h1 h2 hal X hX d (i+1) (k-l.length-1) (by omega) (by omega)
  unfold endO;rw[hnext];have hq2:wrap64 (((sg*(szN e).toNat+f:Nat):Int)+X[i].f3)=((sg*(szN e).toNat+f+m:Nat):Int):=by
   rw[e3,← Int.natCast_add];exact w64_nat _ (by omega)
  have hany:v=false→anyD c E (sg*(szN e).toNat+f-befF f) (m+befF f)=true:=by
   intro hv
   cases ha:anyD c E (sg*(szN e).toNat+f-befF f) (m+befF f)with
   | true=>rfl
   | false =>
    have hm:=e6 ha;rw[hal]at hm;obtain⟨n,a1,a2,a3,a4,a5⟩:=mem_zip hps hm;have:=g3 n a1 a2 (Nat.zero_le _) a3 a4 a5 (by rw[e2];exact w64_nat _ (by omega));rw[hv]at this
    cases this
  have hmn:mn ((sg*(szN e).toNat+f+m:Nat):Int) (img.length:Int)=((sg*(szN e).toNat+f+m:Nat):Int):=by unfold mn;split<;>omega
  by_cases hf:X[i].f2 > 0
  ·rw[if_pos hf]
   cases v with
   | true=>rw[if_pos rfl]
   | false =>
    have ha:=hany rfl;unfold befF at ha;rw[if_neg (by omega)]at ha;have hq1:wrap64 (((sg*(szN e).toNat+f:Nat):Int)-1)=((sg*(szN e).toNat+f-1:Nat):Int):=by unfold wrap64;omega
    have hmx:mx ((sg*(szN e).toNat+f-1:Nat):Int) 0=((sg*(szN e).toNat+f-1:Nat):Int):=by unfold mx;split<;>omega
    rw[if_neg (by simp),hq1,hq2,hit_is E (by omega) hw c img.length (by omega),hmx,hmn,Int.toNat_natCast,show(((sg*(szN e).toNat+f+m:Nat):Int)-((sg*(szN e).toNat+f-1:Nat):Int)).toNat=m+1 by omega,ha,Option.bind_some,if_pos rfl]
  ·rw[if_neg hf]
   cases v with
   | true=>rw[if_pos rfl]
   | false =>
    have ha:=hany rfl;unfold befF at ha;rw[if_pos (by omega),Nat.sub_zero,Nat.add_zero]at ha;have hmx:mx ((sg*(szN e).toNat+f:Nat):Int) 0=((sg*(szN e).toNat+f:Nat):Int):=by unfold mx;split<;>omega
    rw[if_neg (by simp),hq2,hit_is E (by omega) hw c img.length (by omega),hmx,hmn,Int.toNat_natCast,show(((sg*(szN e).toNat+f+m:Nat):Int)-((sg*(szN e).toNat+f:Nat):Int)).toNat=m by omega,ha,Option.bind_some,if_pos rfl]
theorem DamageOthers:Qay.Pure:=by
 intro x0 l x2 h0 hG hD;obtain⟨E,c⟩:=x2;dsimp only;have hl:l.length≤4611686018427387903:=by have:=hG.1;omega
 have hw:=wf_rowO hG.2;have hx:=wf_u8O h0;have hwE:wfEd E:=fun y hy=>by
  have h1:=hD.1.2 y hy;exact⟨wf_u64O h1.1,wf_u8O h1.2⟩
 obtain⟨K,hK⟩:∃K:Nat,K=l.length+400000000:=⟨_,rfl⟩;refine⟨K+1,?_⟩;have hsm:Qav.f x0=some (12+x0%2,1+x0/2%8):=by unfold Qav.f;rw[if_pos hx.1,if_pos hx.2]
 unfold Qay.f Qaz.f;rw[lives24k _ (by omega),Option.bind_some,if_pos rfl,hsm,Option.bind_some,few_is l 30 600 _ hl (by omega),Option.bind_some];dsimp only;obtain⟨e,he⟩:∃e,e=12+x0%2:=⟨_,rfl⟩;obtain⟨s,hs⟩:∃s,s=1+x0/2%8:=⟨_,rfl⟩;rw[← he,← hs];have he1:12≤e∧e≤13:=by omega
 have hs1:1≤s∧s≤8:=by omega
 have hsz8:szN e≤8192:=by
  have:e=12∨e=13:=by omega
  rcases this with h|h<;>rw[h]<;>decide
 by_cases hf:few l 30 600=true
 ·have hn:=few_len hf;have h1:l.length≤1000000:=by omega
  rw[if_pos hf]
  by_cases hE20:(E.length:Int) > 20
  ·rw[if_pos hE20,Option.bind_some];dsimp only;rw[if_neg (by simp)]
  ·rw [if_neg hE20]
   by_cases hz:(Qwa e s l).2.2=0
   ·obtain⟨hg,hc,hil,f1,hA,hst⟩:=encode_img e s l (K+1) h1 hw (by omega) hz;have hr:∀g∈partsOf (Qvx e s l).1 l,∀r∈g,okR r:=fun g a r hr2=>by
     have hm:r∈l:=by
      rw[← partsOf_flat (Qvx e s l).1 l];exact List.mem_flatten.2 ⟨g,a,hr2⟩
     exact⟨Qvm hc r hm,hw r hm⟩
    have hbt:=img_bytes hg _ 0 hA hr;have hpl:=AllG.lenJ (Int.le_refl 0) (by omega) hA;have hil2:=img_len hg _ 0 hA;have hsz:=Quv hg.1 hg.2.1;have hlen:(imgP e s 0 (partsOf (Qvx e s l).1 l)).length≤90000:=by
     rw[hil2];have a1:(partsOf (Qvx e s l).1 l).length≤8:=by omega
     have a2:(szN e).toNat≤8192:=by omega
     exact Nat.le_trans (Nat.mul_le_mul a1 a2) (by decide)
    have hfr:=frames_leO l (Qvm hc);have hfb:(l.flatMap Qvs).length≤1000000000:=by
     have a1:l.length≤40:=by omega
     have a2:l.length*8388608≤40*8388608:=Nat.mul_le_mul_right _ a1;omega
    have hpz:=zip_places e s l (Qvx e s l).1 none 0 hil;have hal:=(allF_img hg _ hA hr).trans (img_places hst hil hfb);obtain⟨img,himg⟩:∃img,img=imgP e s 0 (partsOf (Qvx e s l).1 l):=⟨_,rfl⟩;rw[← himg]at hbt hlen hal;rw[f1,← himg,Option.bind_some];dsimp only;rw[Option.bind_some];dsimp only;have happ:Qaq.f (K+1) img E c=some (hurt img E c):=app_is img (by omega) E (by omega) hwE c (K+1) (by omega);have hlen2:=hurt_len img E c;have hXl:=allF_len (szN e) (hurt img E c);rw[if_pos (show((0:Int) == 0)=true from rfl),Qwi e s l _ h1 hw (by omega),Option.bind_some,if_pos hz];dsimp only;rw[if_pos (by omega),happ,Option.bind_some,shl_oneO hg.1 hg.2.1,Qym (szN e) _ (hurt_bytes img hbt E hwE c) (by omega) _ (by omega),Option.bind_some];exact l0_runO img hbt hlen _ l (by omega) hpz E (by omega) hwE c e s hg.1 hg.2.1 hal _ rfl (allF (szN e) (hurt img E c)).length 0 (K+1) (by omega) (by omega)
   ·have hb:=encode_bad e s l (K+1) h1 hw (by omega) hz;rw[hb,Option.bind_some,Option.bind_some];dsimp only;rw[if_neg (by simp[hz])]
 ·rw[if_neg hf,Option.bind_some];dsimp only;rw[if_neg (by simp)]
end Go.Proofs.YteaocbonofboeaaGreat.Pure
end
