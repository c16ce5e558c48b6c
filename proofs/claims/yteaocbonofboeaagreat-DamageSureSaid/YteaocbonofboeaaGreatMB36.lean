/- Merged texts. -/
import Derived.Test.YteaocbonofboeaaGreatMB34
import Derived.Test.YteaocbonofboeaaGreatMB35
set_option linter.unusedVariables false
set_option linter.unusedSimpArgs false
set_option maxHeartbeats 8000000
set_option maxRecDepth 100000
section
namespace Go.Proofs.YteaocbonofboeaaGreat.Pure
open Go.RowKit Go.Proofs.YteaocbonofboeaaGreat.C Go.Proofs.YteaocbonofboeaaGreat.CodecP Go.Proofs.YteaocbonofboeaaGreatW.PrintWords Go.Proofs.YteaocbonofboeaaGreatW.PrintLast Go.Proofs.YteaocbonofboeaaGreatW.PrintMore Go.Proofs.YteaocbonofboeaaGreat.Open
theorem wf_rowS{l:List Rec}(h:∀x∈l,OG37 x):Wf l:=by
 intro r hr;have h1:(Lit.int .u64 r.f1).wf=true:=(h r hr).2.1;simp only[Lit.wf,IntKind.min,IntKind.max,IntKind.signed,IntKind.bits,Bool.and_eq_true,decide_eq_true_eq]at h1;simp at h1;omega
theorem wf_u8S{x:Int}(h1:(Lit.int .u8 x).wf=true):0≤x∧x<256:=by
 simp only[Lit.wf,IntKind.min,IntKind.max,IntKind.signed,IntKind.bits,Bool.and_eq_true,decide_eq_true_eq]at h1;simp at h1;omega
theorem wf_u64{x:Int}(h1:(Lit.int .u64 x).wf=true):0≤x∧x<18446744073709551616:=by
 simp only[Lit.wf,IntKind.min,IntKind.max,IntKind.signed,IntKind.bits,Bool.and_eq_true,decide_eq_true_eq]at h1;simp at h1;omega
theorem rdPlS(l:List Plc)(i:Nat)(h:i<l.length):Qjt l (i:Int)=l[i]:=by simp[Qjt,List.getElem?_eq_getElem h]
theorem shl_nat{e:Int}{s:Nat}(h1:12≤e)(h2:e≤24)(hs:s≤65536):shl .i64 (s:Int) e=((s*(szN e).toNat:Nat):Int):=by
 have hz:=Qvi h1 h2;have hp:((s*(szN e).toNat:Nat):Int)=(s:Int)*szN e:=by rw[Int.natCast_mul,Int.toNat_of_nonneg (by omega)]
 have hm:(s:Int)*szN e≤65536*16777216:=Int.mul_le_mul (by omega) hz.2 (by omega) (by omega);have hm0:=Int.mul_nonneg (show(0:Int)≤(s:Int)by omega) (show 0≤szN e by omega);unfold shl;have he:min e.toNat IntKind.i64.bits=e.toNat:=by simp[IntKind.bits];omega
 rw[he,hp];exact IntWalk.i64_in _ (by unfold szN at hm hm0;omega)
theorem shl_oneS{e:Int}(h1:12≤e)(h2:e≤24):shl .i64 1 e=szN e:=by
 have h:=shl_nat (s:=1) h1 h2 (by omega);have hz:=Qvi h1 h2;rw[Nat.one_mul,Int.toNat_of_nonneg (by omega)]at h;exact h
theorem frames_leS:∀l:List Rec,(∀r∈l,chkR r=0)→(l.flatMap Qwf).length≤l.length*8388608
 | [],_=>by simp
 | r :: l,h=>by
  have h1:=Qwi r (h r (List.mem_cons_self ..));have ih:=frames_leS l (fun x hx=>h x (List.mem_cons_of_mem _ hx));unfold fsz at h1;rw[List.flatMap_cons,List.length_append,List.length_cons];omega
def Okx(n N:Nat)(x:C.Fd):Prop:=∃s f m:Nat,x.f1=(s:Int)∧x.f2=(f:Int)∧x.f3=(m:Int)∧1≤f∧f+m≤n∧s*n+f+m≤N∧s≤65536∧okR x.f0∧(Qwf x.f0).length=m
theorem runF_mem{n:Nat}{L:List Int}:∀ {X:List C.Fd} {lo:Nat},RunF n L lo X→∀x∈X,∃s f m:Nat,x.f1=(s:Int)∧x.f2=(f:Int)∧x.f3=(m:Int)∧f+m≤n∧s*n+f+m≤L.length∧okR x.f0∧(Qwf x.f0).length=m
 | [],_,_,x,hx=>by cases hx
 | y :: X,lo,h,x,hx=>by
  obtain⟨s,f,m,h1,h2,h3,h4,h5,h6,h7,h8,h9,h10⟩:=h
  rcases List.mem_cons.1 hx with rfl|hx
  ·exact⟨s,f,m,h1,h2,h3,h5,h6,h7,h9⟩
  ·exact runF_mem h10 x hx
theorem fdG_pos(sg:Nat):∀(g:List Rec) (off:Nat),1≤off→∀x∈fdG sg off g,1≤x.f2
 | [],_,_,x,hx=>by simp[fdG]at hx
 | r :: g,off,h,x,hx=>by
  rw[fdG]at hx
  rcases List.mem_cons.1 hx with rfl|hx
  ·dsimp only;omega
  ·exact fdG_pos sg g _ (by omega) x hx
theorem fdP_pos(e s:Int):∀(ps:List (List Rec)) (sg:Nat),∀x∈fdP e s sg ps,1≤x.f2
 | [],_,x,hx=>by simp[fdP]at hx
 | g :: ps,sg,x,hx=>by
  rw[fdP]at hx;have h1:Qvb e s (sg:Int)=((Qnc e s (sg:Int)).length:Int):=rfl;have h2:=Qvc e s (sg:Int)
  rcases List.mem_append.1 hx with hx|hx
  ·exact fdG_pos sg g _ (by omega) x hx
  ·exact fdP_pos e s ps (sg+1) x hx
theorem want_hit(E:List Ed)(hE:E.length≤1000000)(hw:wfEd E)(c:Int)(n N:Nat)(hN:N≤1000000){x:C.Fd}{s f m:Nat}(h1:x.f1=(s:Int))(h2:x.f2=(f:Int))(h3:x.f3=(m:Int))(hf:1≤f)(hm:s*n+f+m≤N) :
  Qat.f E c (N:Int) (((s*n+f:Nat):Int)-1) (((s*n+f:Nat):Int)+(m:Int))=some (!wantX c E n x):=by
 rw[hit_is E hE hw c N hN];have a1:mx (((s*n+f:Nat):Int)-1) 0=(((s*n+f-1:Nat)):Int):=by unfold mx;split<;>omega
 have a2:mn (((s*n+f:Nat):Int)+(m:Int)) (N:Int)=((s*n+f+m:Nat):Int):=by unfold mn;split<;>omega
 rw[a1,a2,Int.toNat_natCast,show(((s*n+f+m:Nat):Int)-((s*n+f-1:Nat):Int)).toNat=m+1 by omega];unfold wantX;rw[h1,h2,h3,Int.toNat_natCast,Int.toNat_natCast,Int.toNat_natCast,Bool.not_not]
theorem sureS_l0(E:List Ed)(hE:E.length≤1000000)(hw:wfEd E)(c:Int)(e:Int)(h1:12≤e)(h2:e≤24)(N:Nat)(hN:N≤1000000)(segs:Nat)(hs1:segs≤65536)(hs:segs*(szN e).toNat=N)(ps:List Plc)(l:List Rec)(hps:ps.length=l.length)(hl:l.length≤1000000)(hX:∀x∈zipF ps l,Okx (szN e).toNat N x) :
  ∀(d j k:Nat) (out:List Bool),j+d=l.length→out.length≤j→Qav.l0 (k+d+1) ps (segs:Int) (szN e) out l (l.length:Int) (j:Int) E c=some (out++((zipF ps l).drop j).map (wantX c E (szN e).toNat),0)
 | 0,j,k,out,hd,ho=>by
  obtain⟨z1,z2⟩:=zipF_at ps l hps;unfold Qav.l0;rw[if_neg (by omega),List.drop_of_length_le (by omega)];simp
 | d+1,j,k,out,hd,ho=>by
  obtain⟨z1,z2⟩:=zipF_at ps l hps;have hj:j<l.length:=by omega
  have hj2:j<ps.length:=by omega
  have hj3:j<(zipF ps l).length:=by omega
  have hx:=z2 j hj3 hj2 hj;obtain⟨s,f,m,e1,e2,e3,e4,e5,e6,e7,e8,e9⟩:=hX _ (List.getElem_mem hj3);have hh:=want_hit E hE hw c (szN e).toNat N hN e1 e2 e3 e4 e6;rw[hx]at e1 e2 e3 e8 e9;dsimp only at e1 e2 e3 e8 e9;have hz:=Qvi h1 h2;have hsn:s≤s*(szN e).toNat:=Nat.le_mul_of_pos_right _ (by omega);have hm1:(s:Int)*szN e=((s*(szN e).toNat:Nat):Int):=by rw[Int.natCast_mul,Int.toNat_of_nonneg (by omega)]
  have hm2:(segs:Int)*szN e=(N:Int):=by rw[← hs,Int.natCast_mul,Int.toNat_of_nonneg (by omega)]
  unfold Qav.l0;rw[if_pos (by omega),if_pos (by omega),if_pos (by omega),rdR l j hj,Qwj l[j] e8.1 e8.2.1 e8.2.2,Option.bind_some,if_pos (by omega),rdPlS ps j hj2,e1,e2];dsimp only;rw[e9,w64_nat s (by omega),w64_nat segs (by omega),hm1,hm2,w64_nat (s*(szN e).toNat) (by omega),w64_nat N (by omega),w64_nat f (by omega),← Int.natCast_add,w64_nat (s*(szN e).toNat+f) (by omega)];have q1:wrap64 (((s*(szN e).toNat+f:Nat):Int)-1)=((s*(szN e).toNat+f:Nat):Int)-1:=by unfold wrap64;omega
  have q2:wrap64 (((s*(szN e).toNat+f:Nat):Int)+(m:Int))=((s*(szN e).toNat+f:Nat):Int)+(m:Int):=by unfold wrap64;omega
  rw[q1,q2,hh,Option.bind_some,if_pos (by omega),Quo j (by omega),show k+(d+1)=k+d+1 by omega,Bool.not_not];refine Eq.trans (sureS_l0 E hE hw c e h1 h2 N hN segs hs1 hs ps l hps hl hX d (j+1) k (out++[wantX c E (szN e).toNat (zipF ps l)[j]]) (by omega) (by rw[List.length_append,List.length_singleton];omega)) ?_;rw[List.drop_eq_getElem_cons hj3,List.map_cons,List.append_assoc,List.singleton_append]
noncomputable def endS(k:Nat)(img:List Int)(S:List Bool)(ps:List Plc)(part l:List Rec)(i:Nat)(E:List Ed)(c e s:Int)(r:Rec)(v:Bool):Option Bool :=
 if 0≤(i:Int)then(if(i:Int)<(S.length:Int)then(if((rdOf false S (i:Int)) != v)=true then(some false)else(if v=true then(if part.length<2932031007402 then(Qbb.l0 k img S ps (part++[(⟨r.f0,r.f1,r.f2,r.f3⟩:Rec)]) l (l.length:Int) (wrap64 ((i:Int)+1)) E c e s)else(none))else(Qbb.l0 k img S ps part l (l.length:Int) (wrap64 ((i:Int)+1)) E c e s)))else(none))else(none)
theorem l1_run(img:List Int)(hN:img.length≤90000)(S:List Bool)(ps:List Plc)(part l:List Rec)(i:Nat)(E:List Ed)(hE:E.length≤1000)(c e s:Int)(r:Rec)(hr:okR r)(hk:r.f2.size≤2000∧r.f3.size≤2000)(m:Nat)(hm:(Qwf r).length=m)(q:Nat)(hq:q+m≤img.length) :
  ∀(d y k:Nat) (w:Bool),y+d=q+m→100000≤k→Qbb.l1 (k+d+1) img S ps part (i:Int) (q:Int) w (y:Int) l (l.length:Int) (i:Int) E c e s r.f0 r.f1 r.f2 r.f3=endS k img S ps part l i E c e s r (w && !anyD c E y d)
 | 0,y,k,w,hd,hk0=>by
  obtain⟨t,ht,hb⟩:=Quy k r.f0 r.f1 r.f2 r.f3 hr.2.1 hr.2.2 (by omega) (by omega) (by omega);have hb':bytesOf t=Qwf r:=hb;have htz:t.size=m:=by rw[← Qdj,hb',hm]
  have hqm:q+m<4611686018427387904:=by omega
  have hw1:=QA (show wrap64 ((q:Int)+(t.size:Int))=((q+m:Nat):Int)by rw[htz,← Int.natCast_add];exact w64_nat (q+m) hqm);unfold Qbb.l1;rw[ht,Option.bind_some,hw1.out,if_neg (by omega),show(w && !anyD c E y 0)=w by simp[anyD]];rfl
 | d+1,y,k,w,hd,hk0=>by
  obtain⟨t,ht,hb⟩:=Quy (k+(d+1)) r.f0 r.f1 r.f2 r.f3 hr.2.1 hr.2.2 (by omega) (by omega) (by omega);have hb':bytesOf t=Qwf r:=hb;have htz:t.size=m:=by rw[← Qdj,hb',hm]
  have hqm:q+m<4611686018427387904:=by omega
  have hw1:=QA (show wrap64 ((q:Int)+(t.size:Int))=((q+m:Nat):Int)by rw[htz,← Int.natCast_add];exact w64_nat (q+m) hqm);unfold Qbb.l1;rw[ht,Option.bind_some,hw1.out,if_pos (by omega),Quo y (by omega)]
  cases w with
  | true =>
   rw[if_pos rfl,refs_is E (by omega) _ (by omega),Option.bind_some,dam_is E (by omega) c img.length y (by omega) (by omega) _ (by omega),Option.bind_some,show k+(d+1)=k+d+1 by omega];refine Eq.trans (l1_run img hN S ps part l i E hE c e s r hr hk m hm q hq d (y+1) k (!damB c E y) (by omega) hk0) ?_;rw[show(!damB c E y && !anyD c E (y+1) d)=(true && !anyD c E y (d+1))by simp[anyD]]
  | false =>
   rw[if_neg (by simp),show k+(d+1)=k+d+1 by omega];refine Eq.trans (l1_run img hN S ps part l i E hE c e s r hr hk m hm q hq d (y+1) k false (by omega) hk0) ?_;simp
theorem l0_run(img:List Int)(hbt:Bytes img)(hN:img.length≤90000)(ps:List Plc)(l:List Rec)(hl:l.length≤1000)(hps:ps.length=l.length)(hk2:∀r∈l,r.f2.size≤2000∧r.f3.size≤2000)(E:List Ed)(hE:E.length≤1000)(hw:wfEd E)(c e s:Int)(h1:12≤e)(h2:e≤24)(hal:allF (szN e) img=zipF ps l)(hX:∀x∈zipF ps l,Okx (szN e).toNat img.length x) :
  ∀(d j k:Nat),j+d=l.length→100000*(d+1)+9000000≤k→Qbb.l0 k img ((zipF ps l).map (wantX c E (szN e).toNat)) ps ((((zipF ps l).take j).filter (wantX c E (szN e).toNat)).map (fun f=>f.f0)) l (l.length:Int) (j:Int) E c e s=some true
 | 0,j,k,hd,hk=>by
  obtain⟨k,rfl⟩:∃m,k=m+1:=⟨k-1,by omega⟩;obtain⟨z1,z2⟩:=zipF_at ps l hps;have hz:=Qvi h1 h2;have hn:nOf (szN e)=(szN e).toNat:=by unfold nOf;rw[if_pos (by omega)]
  have hlen:=hurt_len img E c;have hfl:=allF_len (szN e) (hurt img E c);have hsub:=(sure_found (szN e) img (by omega) E hw c).map (fun f:C.Fd=>f.f0);rw[hn,hal]at hsub;have happ:Qar.f k img E c=some (hurt img E c):=app_is img (by omega) E (by omega) hw c k (by omega);have hpl:=List.length_filter_le (wantX c E (szN e).toNat) (zipF ps l);unfold Qbb.l0;rw[if_neg (by omega),if_pos (by omega),happ,Option.bind_some,shl_oneS h1 h2,salvage_is (szN e) _ (hurt_bytes img hbt E hw c) (by omega) k (by omega),Option.bind_some,recs_is _ (by omega) k (by omega),Option.bind_some,List.take_of_length_le (by omega),sub_is _ _ (by rw[List.length_map];omega) (by rw[List.length_map];omega) k (by omega),Option.bind_some,subR_of _ _ hsub]
 | d+1,j,k,hd,hk=>by
  obtain⟨k,rfl⟩:∃m,k=m+1:=⟨k-1,by omega⟩;obtain⟨z1,z2⟩:=zipF_at ps l hps;have hj:j<l.length:=by omega
  have hj2:j<ps.length:=by omega
  have hj3:j<(zipF ps l).length:=by omega
  have hx:=z2 j hj3 hj2 hj;obtain⟨x0,f,m,e1,e2,e3,e4,e5,e6,e7,e8,e9⟩:=hX _ (List.getElem_mem hj3);have hwx:wantX c E (szN e).toNat (zipF ps l)[j]=!anyD c E (x0*(szN e).toNat+f-1) (m+1):=by
   unfold wantX;rw[e1,e2,e3,Int.toNat_natCast,Int.toNat_natCast,Int.toNat_natCast]
  have a:((zipF ps l)[j]).f0=l[j]:=by rw[hx]
  rw[hx]at e1 e2 e3 e8 e9;dsimp only at e1 e2 e3 e8 e9;have hz:=Qvi h1 h2;have hsn:x0≤x0*(szN e).toNat:=Nat.le_mul_of_pos_right _ (by omega);unfold Qbb.l0;rw[if_pos (by omega),if_pos (by omega),if_pos (by omega),if_pos (by omega),if_pos (by omega),rdR l j hj,rdPlS ps j hj2,e1,e2,w64_nat x0 (by omega),shl_nat h1 h2 e7,w64_nat f (by omega),← Int.natCast_add,w64_nat (x0*(szN e).toNat+f) (by omega)];rw[show wrap64 (((x0*(szN e).toNat+f:Nat):Int)-1)=((x0*(szN e).toNat+f-1:Nat):Int)by unfold wrap64;omega];have hrun:=l1_run img hN ((zipF ps l).map (wantX c E (szN e).toNat)) ps ((((zipF ps l).take j).filter (wantX c E (szN e).toNat)).map (fun f=>f.f0)) l j E hE c e s l[j] e8 (hk2 _ (List.getElem_mem hj)) m e9 (x0*(szN e).toNat+f) e6 (m+1) (x0*(szN e).toNat+f-1) (k-(m+1)-1) true (by omega) (by omega);rw[show k-(m+1)-1+(m+1)+1=k by omega]at hrun;refine Eq.trans hrun ?_;rw[Bool.true_and,← hwx];have hrec:=l0_run img hbt hN ps l hl hps hk2 E hE hw c e s h1 h2 hal hX d (j+1) (k-(m+1)-1) (by omega) (by omega);rw[List.take_succ_eq_append_getElem hj3,List.filter_append]at hrec;have hrd:rdOf false ((zipF ps l).map (wantX c E (szN e).toNat)) (j:Int)=wantX c E (szN e).toNat (zipF ps l)[j]:=by
   unfold rdOf;rw[Int.toNat_natCast,List.getD_eq_getElem?_getD,List.getElem?_map,List.getElem?_eq_getElem hj3];rfl
  have hpl:=List.length_filter_le (wantX c E (szN e).toNat) ((zipF ps l).take j);rw[List.length_take]at hpl;unfold endS;rw[if_pos (by omega),if_pos (by rw[List.length_map];omega),hrd,bne_self_eq_false,if_neg (by simp),Quo j (by omega)]
  cases hv:wantX c E (szN e).toNat (zipF ps l)[j]with
  | true =>
   rw[List.filter_cons_of_pos hv,List.filter_nil,List.map_append]at hrec;rw[if_pos rfl,if_pos (by rw[List.length_map];omega)];have hcell:[(zipF ps l)[j]].map (fun f:C.Fd=>f.f0)=[(⟨l[j].f0,l[j].f1,l[j].f2,l[j].f3⟩:Rec)]:=by rw[List.map_cons,List.map_nil,a]
   rw[hcell]at hrec;exact hrec
  | false =>
   rw[List.filter_cons_of_neg (by rw[hv];simp),List.filter_nil,List.append_nil]at hrec;rw[if_neg (by simp)];exact hrec
theorem DamageSure:Qbb.Pure:=by
 intro x0 l x2 h0 hG hD;obtain⟨E,c⟩:=x2;dsimp only;have hl:l.length≤4611686018427387903:=by have:=hG.1;omega
 have hw:=wf_rowS hG.2;have hx:=wf_u8S h0;have hwE:wfEd E:=fun y hy=>by
  have h1:=hD.1.2 y hy;exact⟨wf_u64 h1.1,wf_u8S h1.2⟩
 obtain⟨K,hK⟩:∃K:Nat,K=l.length+20000000:=⟨_,rfl⟩;refine⟨K+1,?_⟩;have hsm:Qay.f x0=some (12+x0%2,1+x0/2%8):=by unfold Qay.f;rw[if_pos hx.1,if_pos hx.2]
 unfold Qbb.f Qbc.f;rw[lives24k _ (by omega),Option.bind_some,if_pos rfl,hsm,Option.bind_some,few_is l 30 600 _ hl (by omega),Option.bind_some];dsimp only;obtain⟨e,he⟩:∃e,e=12+x0%2:=⟨_,rfl⟩;obtain⟨s,hs⟩:∃s,s=1+x0/2%8:=⟨_,rfl⟩;rw[← he,← hs];have he1:12≤e∧e≤13:=by omega
 have hs1:1≤s∧s≤8:=by omega
 have hsz8:szN e≤8192:=by
  have:e=12∨e=13:=by omega
  rcases this with h|h<;>rw[h]<;>decide
 by_cases hf:few l 30 600=true
 ·have hn:=few_len hf;have h1:l.length≤1000000:=by omega
  rw[if_pos hf]
  by_cases hE20:(E.length:Int) > 20
  ·rw[if_pos hE20,Option.bind_some];dsimp only;rw[if_neg (by simp)]
  ·rw [if_neg hE20]
   by_cases hz:(Qwn e s l).2.2=0
   ·obtain⟨hg,hc,hil,f1,hA,hst⟩:=encode_img e s l (K+1) h1 hw (by omega) hz;obtain⟨fin,g1,g2,g3,g4,g5⟩:=encode_ok e s l (K+1) h1 hw (by omega) hz;have hfin:fin=imgP e s 0 (partsOf (Qwk e s l).1 l):=by
     have h9:=g1.symm.trans f1;exact congrArg Prod.fst (Option.some.inj h9)
    obtain⟨_,_,_,_,_,hin⟩:=Qwu hz h1;have hr:∀g∈partsOf (Qwk e s l).1 l,∀r∈g,okR r:=fun g a r hr2=>by
     have hm:r∈l:=by
      rw[← partsOf_flat (Qwk e s l).1 l];exact List.mem_flatten.2 ⟨g,a,hr2⟩
     exact⟨Qvz hc r hm,hw r hm⟩
    have hbt:=img_bytes hg _ 0 hA hr;have hpl:=AllG.lenJ (Int.le_refl 0) (by omega) hA;have hil2:=img_len hg _ 0 hA;have hsz:=Qvi hg.1 hg.2.1;have hlen:(imgP e s 0 (partsOf (Qwk e s l).1 l)).length≤90000:=by
     rw[hil2];have a1:(partsOf (Qwk e s l).1 l).length≤8:=by omega
     have a2:(szN e).toNat≤8192:=by omega
     exact Nat.le_trans (Nat.mul_le_mul a1 a2) (by decide)
    have hfr:=frames_leS l (Qvz hc);have hfb:(l.flatMap Qwf).length≤1000000000:=by
     have a1:l.length≤40:=by omega
     have a2:l.length*8388608≤40*8388608:=Nat.mul_le_mul_right _ a1;omega
    have hpz:=zip_places e s l (Qwk e s l).1 none 0 hil;have hal:=(allF_img hg _ hA hr).trans (img_places hst hil hfb);have hrun:=allF_run (szN e) (imgP e s 0 (partsOf (Qwk e s l).1 l)) (by omega);have hnn:nOf (szN e)=(szN e).toNat:=by unfold nOf;rw[if_pos (by omega)]
    have hX:∀x∈zipF (Qwr e s none 0 (Qwk e s l).1 (l.map fsz)) l,Okx (szN e).toNat (imgP e s 0 (partsOf (Qwk e s l).1 l)).length x:=fun x hxm=>by
     rw[hnn,hal]at hrun;obtain⟨s0,f0,m0,a1,a2,a3,a4,a5,a6,a7⟩:=runF_mem hrun x hxm;have hpos:=fdP_pos e s (partsOf (Qwk e s l).1 l) 0 x (by rw[img_places hst hil hfb];exact hxm);have hs0:s0≤s0*(szN e).toNat:=Nat.le_mul_of_pos_right _ (by omega);refine⟨s0,f0,m0,a1,a2,a3,by omega,a4,a5,?_,a6,a7⟩
     by_cases hb9:s0≤65536
     ·exact hb9
     ·have:65537*4096≤s0*(szN e).toNat:=Nat.mul_le_mul (by omega) (by omega);omega
    have hseg:((Qww (Qwk e s l).1).toNat:Int)=Qww (Qwk e s l).1:=Int.toNat_of_nonneg g2;rw[f1,Option.bind_some];dsimp only;rw[Option.bind_some];dsimp only;rw[if_pos (show((0:Int) == 0)=true from rfl)];unfold Qav.f;rw[Qwv e s l _ h1 hw (by omega),Option.bind_some,if_pos hz,hz];dsimp only;rw[if_pos rfl,segs_is e s l _ h1 hw (by omega),if_pos hz,Option.bind_some,Qvj hg,Option.bind_some];dsimp only;have hS:=sureS_l0 E (by omega) hwE c e hg.1 hg.2.1 (imgP e s 0 (partsOf (Qwk e s l).1 l)).length (by omega) (Qww (Qwk e s l).1).toNat (by omega) (by rw[← hfin,g4]) _ l hpz h1 hX l.length 0 (K+1-l.length-1) [] (by omega) (by simp);rw[show K+1-l.length-1+l.length+1=K+1 by omega,hseg,List.nil_append,List.drop_zero]at hS;refine(congrArg (fun o=>Option.bind o _) hS).trans ?_;rw[Option.bind_some];dsimp only;rw[Option.bind_some];dsimp only;have hzl:=(zipF_at _ l hpz).1;rw[if_pos rfl,if_pos rfl,List.length_map,hzl,bne_self_eq_false,Qbb.j0,if_neg (by simp)];exact l0_run _ hbt hlen _ l (by omega) hpz (fun r hr9=>by have:=hn.2 r hr9;omega) E (by omega) hwE c e s hg.1 hg.2.1 hal hX l.length 0 K (by omega) (by omega)
   ·have hb:=encode_bad e s l (K+1) h1 hw (by omega) hz;rw[hb,Option.bind_some,Option.bind_some];dsimp only;rw[if_neg (by simp[hz])]
 ·rw[if_neg hf,Option.bind_some];dsimp only;rw[if_neg (by simp)]
end Go.Proofs.YteaocbonofboeaaGreat.Pure
end
