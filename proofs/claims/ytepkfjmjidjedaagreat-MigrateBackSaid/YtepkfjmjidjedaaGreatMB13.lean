/- Merged texts. -/
import Derived.Test.YtepkfjmjidjedaaGreatMB02
import Derived.WalkLawsBesides
import Derived.Recover
import Derived.Defers
import Derived.Test.YtepkfjmjidjedaaGreatMB09
import Derived.Test.YtepkfjmjidjedaaGreatMB06
import Derived.Test.YtepkfjmjidjedaaGreatMB07
import Derived.Test.YtepkfjmjidjedaaGreatMB12
import Derived.Test.YtepkfjmjidjedaaGreatMB05
import Derived.Test.YtepkfjmjidjedaaGreatMB08
set_option linter.unusedVariables false
set_option linter.unusedSimpArgs false
set_option maxHeartbeats 8000000
set_option maxRecDepth 100000
section
namespace Go.Proofs.YtepkfjmjidjedaaGreat.C
open Go.RowKit Go.Proofs.YtepkfjmjidjedaaGreatW.PrintWords Go.Proofs.YtepkfjmjidjedaaGreatW.PrintLast Go.Proofs.YtepkfjmjidjedaaGreatW.PrintMore
abbrev Pr:=S132
def oneL (bs:List Int) (i:Nat):Except (Int × Int) (Pr × Nat) :=
 if bs.length<i+8 then .error (2,(i:Int))else
  let k:=CodecP.leI ((bs.drop i).take 4);let v:=CodecP.leI ((bs.drop (i+4)).take 4)
  if k=0 then .error (4,((i+8:Nat):Int))else if 4096<k∨1048576<v then .error (3,((i+8:Nat):Int))else
   if(bs.length:Int)<((i+8:Nat):Int)+k+v+4 then .error (2,((i+8:Nat):Int))else
    if Qmc 0 (leb k 4++leb v 4++bytesOf (strOfNums ((bs.drop (i+8)).take k.toNat))++bytesOf (strOfNums ((bs.drop (i+8+k.toNat)).take v.toNat)))=CodecP.leI ((bs.drop (i+8+k.toNat+v.toNat)).take 4)then
     .ok (⟨strOfNums ((bs.drop (i+8)).take k.toNat),strOfNums ((bs.drop (i+8+k.toNat)).take v.toNat)⟩,i+8+k.toNat+v.toNat+4)
    else .error (5,((i+8+k.toNat+v.toNat+4:Nat):Int))
def allL(bs:List Int):Nat→Nat→List Pr→List Pr × Int × Int
 | 0,i,acc=>(acc,(i:Int),0)
 | f+1,i,acc=>if i<bs.length then(match oneL bs i with
   | .ok (p,j)=>allL bs f j (acc++[p])
   | .error (er,_)=>(acc,(i:Int),er))else(acc,(i:Int),0)
theorem Qod(k v:Int):Qaq.f k v=some (if k=0 then 4 else if 4096<k then 3 else if 1048576<v then 3 else 0):=by
 unfold Qaq.f
 repeat' split
 all_goals first|rfl|omega
theorem Qoe(lo g:Nat)(bs:List Int)(i:Nat)(hb:CodecP.Bytes bs)(hl:bs.length≤100000000)(hi:i≤bs.length)(hlg:lo≤g)(w:World)(hbw:lo≤w.heap.size)(hI:IsCur w lo g bs (i:Int)) :
  Calls Tryz.prog 173 #[.pointer (some ⟨g,0,none⟩)] w fun e w'=>Bw lo g w w'∧(match oneL bs i with
   | .ok (p,j)=>e=.returned (.agg #[.string p.f0,.string p.f1])∧IsCur w' lo g bs (j:Int)∧i<j∧j≤bs.length
   | .error (er,_)=>er≠0∧e=.panicked [Qlb g er]∧∃j:Int,IsCur w' lo g bs j):=by
 unfold oneL
 by_cases h8:bs.length<i+8
 ·rw[if_pos h8];refine(Qnw lo g bs i hl hi hlg w hbw hI h8).mono ?_;rintro e w' ⟨rfl,h1,h2⟩;exact⟨h2,by decide,rfl,_,h1⟩
 ·rw [if_neg h8];obtain⟨k,hk⟩:∃k,k=CodecP.leI ((bs.drop i).take 4):=⟨_,rfl⟩;obtain⟨v,hv⟩:∃v,v=CodecP.leI ((bs.drop (i+4)).take 4):=⟨_,rfl⟩;have hkr:=(CodecP.leI_range ((hb.drop i).take 4)).1;have hvr:=(CodecP.leI_range ((hb.drop (i+4)).take 4)).1;rw[← hk]at hkr;rw[← hv]at hvr;dsimp only;rw[← hk,← hv];have hL:=Qod k v
  by_cases h0:k=0
  ·rw[if_pos h0]at hL ⊢;refine(Qnx lo g bs i hb hl hlg w hbw hI (by omega) k v 4 hk hv hL (by decide)).mono ?_;rintro e w' ⟨rfl,h1,h2⟩;exact⟨h2,by decide,rfl,_,h1⟩
  ·rw [if_neg h0]at hL ⊢
   by_cases hbig:4096<k∨1048576<v
   ·rw[if_pos hbig];refine(Qnx lo g bs i hb hl hlg w hbw hI (by omega) k v 3 hk hv (by rw[hL];(repeat' split)<;>first|rfl|omega) (by decide)).mono ?_;rintro e w' ⟨rfl,h1,h2⟩;exact⟨h2,by decide,rfl,_,h1⟩
   ·rw[if_neg hbig];rw[if_neg (by omega),if_neg (by omega)]at hL
    by_cases hsh:(bs.length:Int)<((i+8:Nat):Int)+k+v+4
    ·rw[if_pos hsh];refine(Qny lo g bs i hb hl hlg w hbw hI (by omega) k v hk hv hL (by omega)).mono ?_;rintro e w' ⟨rfl,h1,h2⟩;exact⟨h2,by decide,rfl,_,h1⟩
    ·rw[if_neg hsh];have t1:((i:Int)+4+4).toNat=i+8:=by omega
     have t2:((i:Int)+4+4+k).toNat=i+8+k.toNat:=by omega
     have t3:((i:Int)+4+4+k+v).toNat=i+8+k.toNat+v.toNat:=by omega
     have hm:=Qoc lo g bs i hb hl hlg w hbw hI (by omega) k v hk hv hL (by omega) (CodecP.leI ((bs.drop (i+8+k.toNat+v.toNat)).take 4)) (by rw[t3]) ((bs.drop (i+8)).take k.toNat) ((bs.drop (i+8+k.toNat)).take v.toNat) (by rw[t1]) (by rw[t2]);refine hm.mono ?_;rintro e w' ⟨⟨h1,h2⟩,⟨h3,rfl⟩ |⟨h3,rfl⟩⟩
     ·rw[if_pos h3];refine⟨h2,rfl,?_,by omega,by omega⟩;rw[show((i+8+k.toNat+v.toNat+4:Nat):Int)=(i:Int)+4+4+k+v+4 by omega];exact h1
     ·rw[if_neg h3];exact⟨h2,by decide,rfl,_,h1⟩
def Qao.f(l0:List Int):Option (List Pr × Int × Int):=if l0.all (fun x=>decide (0≤x∧x<256))=true∧l0.length≤100000000 then some (allL l0 (l0.length+1) 0 [])else none
theorem bytes_all{l:List Int}:l.all (fun x=>decide (0≤x∧x<256))=true↔CodecP.Bytes l:=by
 rw[List.all_eq_true];exact⟨fun h x hx=>by simpa using h x hx,fun h x hx=>by simpa using h x hx⟩
def RP(W:World)(b:Nat)(v:Value)(xs:List Pr):Prop:=(k132).R 132 W b (fun _=>True) v xs
theorem RP.cur{W W':World}{b g b':Nat}{v:Value}{xs:List Pr}{bs:List Int}{i:Int}(h:RP W b' v xs)(hI:IsCur W b g bs i)(hT:Bw b g W W'):RP W' b' v xs:=by
 obtain⟨u,hu,_⟩:=hI;refine Kd.R_mono (Kd.R_step (Kd.R_bound h) (fun k hk _=>?_)) (fun _ _=>trivial);obtain⟨q,hq,cells,hc⟩:=hk.2.2.2;have ht:∀q,q∈132 :: (k132).E→q=132:=by decide
 obtain rfl:=ht q hq;rw[hc];exact hT.2 k cells _ hc (by decide) (Qdo hc hu (by decide))
theorem RP.ty{W W':World}{b':Nat}{v:Value}{xs:List Pr}(h:RP W b' v xs)(hT:Ty W W'):RP W' b' v xs:=by
 refine Kd.R_mono (Kd.R_step (Kd.R_bound h) (fun k hk _=>?_)) (fun _ _=>trivial);obtain⟨q,hq,cells,hc⟩:=hk.2.2.2;have ht:∀q,q∈132 :: (k132).E→q=132:=by decide
 obtain rfl:=ht q hq;rw[hc];exact hT k cells _ hc (by decide) (by decide) (by decide)
structure GS (w W:World) (lo g lb:Nat) (bs:List Int) (i n:Int) (acc:List Pr) (v:Value):Prop where
  cur:IsCur W lo g bs i
  low:Below lb w W
  tl:Tl lo g w W
  l:W.heap[lb]? = some (.cells #[v] 130 (0,0))
  rows:RP W w.heap.size v acc
  n:W.heap[lb+1]? = some (.cells #[.int .i64 n] 3 (0,0))
  lt:lb+1<lo
  size:lo≤w.heap.size
section
variable {w W W':World} {lo g lb:Nat} {bs:List Int} {i j n:Int} {acc:List Pr} {v:Value}
theorem GS.grow(h:GS w W lo g lb bs i n acc v):w.heap.size≤W.heap.size:=h.low.size
theorem GS.go(h:GS w W lo g lb bs i n acc v)(hI:IsCur W' lo g bs j)(hB:Bw lo g W W'):GS w W' lo g lb bs j n acc v :=
 ⟨hI,h.low.trans (Qip hB.1 (by have:=h.lt;omega)),fun k cs t h1 h2 h3 h4=>hB.2 _ _ _ (h.tl k cs t h1 h2 h3 h4) h3 h4,
  (hB.1.block lb (by have:=h.lt;omega)).trans h.l,h.rows.cur h.cur hB,(hB.1.block (lb+1) h.lt).trans h.n,h.lt,h.size⟩
theorem GS.below(h:GS w W lo g lb bs i n acc v)(hb:Below W.heap.size W W'):GS w W' lo g lb bs i n acc v :=
 h.go (h.cur.kept hb) (Bw.below hb (Nat.le_trans h.size h.grow))
theorem GS.app{w1:World}{v1:Value}{acc1:List Pr}(h:GS w W lo g lb bs i n acc v)(hR:RP w1 w.heap.size v1 acc1)(hb:Below w.heap.size W w1)(hg:W.grownBy w1 v.ownBlock)(hlg:lo≤g) :
  w1.heap[lb]? = some (.cells #[v] 130 (0,0))∧GS w (w1.setCell ⟨lb,0,none⟩ v1) lo g lb bs i n acc1 v1:=by
 have hlt:=h.lt;have hlb:w1.heap[lb]? = some (.cells #[v] 130 (0,0)):=(hb.block lb (by have:=h.size;omega)).trans h.l;have hn:=(hb.block (lb+1) (by have:=h.size;omega)).trans h.n;obtain⟨u,hu,hur⟩:=h.cur.grown h.rows ⟨by decide,by decide⟩ hg;refine⟨hlb,⟨u,Qdj hu (p:=⟨lb,0,none⟩) (Qdo hu hlb (by decide)) _,hur.set hlb (by decide) 0 _⟩,?_,?_,Qdi hlb 0 _,Kd.R_set hR hlb (by decide) 0 _,Qdj hn (p:=⟨lb,0,none⟩) (show lb+1≠lb by omega) _,hlt,h.size⟩
 ·exact Qio (h.low.trans (Qip hb (by have:=h.size;omega))) (Nat.le_refl _)
 ·intro k cs t h1 h2 h3 h4;exact Qdj ((hb.block k (Qdk h2)).trans (h.tl k cs t h1 h2 h3 h4)) (p:=⟨lb,0,none⟩) (show k≠lb by omega) _
theorem GS.num(h:GS w W lo g lb bs i n acc v)(hlg:lo≤g)(m:Int):GS w (W.setCell ⟨lb+1,0,none⟩ (.int .i64 m)) lo g lb bs i m acc v:=by
 have hlt:=h.lt;obtain⟨u,hu,hur⟩:=h.cur;refine⟨⟨u,Qdj hu (p:=⟨lb+1,0,none⟩) (Qdo hu h.n (by decide)) _,hur.set h.n (by decide) 0 _⟩,Qio h.low (Nat.le_succ _),?_,Qdj h.l (p:=⟨lb+1,0,none⟩) (show lb≠lb+1 by omega) _,Kd.R_set h.rows h.n (by decide) 0 _,Qdi h.n 0 _,hlt,h.size⟩;intro k cs t h1 h2 h3 h4;exact Qdj (h.tl k cs t h1 h2 h3 h4) (p:=⟨lb+1,0,none⟩) (show k≠lb+1 by omega) _
end
def posOf(W:World)(g:Nat):Nat:=match W.cell? ⟨g,1,none⟩with
 | some (.int _ i)=>i.toNat
 | _=>0
theorem Qof{W:World}{b g:Nat}{bs:List Int}{i:Nat}(h:IsCur W b g bs (i:Int)):posOf W g=i:=by
 obtain⟨A,c,h0,h1,_⟩:=h.cells;unfold posOf;rw[h1];exact Int.toNat_natCast i
theorem Qog:(Tryz.prog.info? 132).map (fun i=>(i.zero,i.size,i.bytes))=some (some (.agg #[.string (⟨#[]⟩:ByteArray),.string (⟨#[]⟩:ByteArray)]),2,32):=by kernel_rfl
theorem goesP_{P:Program}{ops:Array Oper}{Q:Exit→Act→World→Prop}{oi:Oper}{N:Option Tmp}{a:Act}{w:World}{K:Act→World→Prop}{f:FuncId}{fn:Func}{as_:Array Operand}{ts:Array TypeId}(hf:P.funcs[f]? = some fn)(hname:(fn.name == "runtime.NumGoroutine")=false)(hb:fn.body.isSome=true)(args:Array Value)
  (hw:Region.wanted oi (yielded ops a.tmps)=true) (hop:oi.op=.call { callee:=.value (.func f),args:=as_,argTypes:=ts }) (hargs:as_.map a.eval=args)
  (h:Calls P f args w fun e w'=>∃ch,e=.panicked ch∧Q (.panic ch) a w'):if Region.wanted oi (yielded ops a.tmps)=true then Oper.wp P oi a w K Q else K (a.put N undef) w:=by
 have he:=Qfx hf hname hb args w;have hrun:(execOp a.eval oi).run P w=.ok (.enter f args) w:=by
  unfold execOp;simp[hop,resolve,Deferred.ofValue,invoke,Act.eval,hargs,he]
 rw[if_pos hw];unfold Oper.wp;rw[hrun,Oper.upon_enter];refine h.mono fun e w'' hh=>?_
 obtain⟨ch,rfl,hk⟩:=hh;exact hk
theorem Qoh(lo g lb:Nat)(bs:List Int)(hb:CodecP.Bytes bs)(hl:bs.length≤100000000)(hlg:lo≤g)(w:World)(hS:GS w w lo g lb bs 0 0 [] (.slice none 0 0)) :
  Calls Tryz.prog 171 #[.pointer (some ⟨g,0,none⟩),.pointer (some ⟨lb,0,none⟩),.pointer (some ⟨lb+1,0,none⟩)] w fun e w' =>
   ∃i v,GS w w' lo g lb bs i (allL bs (bs.length+1) 0 []).2.1 (allL bs (bs.length+1) 0 []).1 v ∧
    ((e=.returned (.tuple #[])∧(allL bs (bs.length+1) 0 []).2.2=0)∨(e=.panicked [Qlb g (allL bs (bs.length+1) 0 []).2.2]∧(allL bs (bs.length+1) 0 []).2.2≠0)):=by
 obtain⟨R,hR⟩:∃R,R=allL bs (bs.length+1) 0 []:=⟨_,rfl⟩;rw[← hR];have HR:=QA hR;have HS:=QA hS;have HB:=QA hb;have HL:=QA hl;have hl2:bs.length≤140737488355328:=by omega
 clear hR hS hb hl
 go_enter Tryz.func171,Tryz.ntmps171
 go_wp2_with fail
 go_loopw [13] (fun h wr=>∃(i f:Nat) (acc:List Pr) (v:Value),Aside0 (i≤bs.length∧bs.length<i+f∧acc.length≤i)∧Aside0 (R=allL bs f i acc)∧Aside0 (GS w wr lo g lb bs (i:Int) (i:Int) acc v))
  (fun _ wr=>bs.length-posOf wr g)
 case atStart=>exact⟨0,bs.length+1,[],_,⟨by simp⟩,HR,HS⟩
 case round =>
  obtain⟨i,f,acc,v,HI,HA,HG⟩:=hrel;clear HS;obtain⟨A,c,hv⟩:=Kd.R_slice HG.out.rows;subst hv
  by_cases hlt:i<bs.length
  ·have hgt:decide ((bs.length:Int)-(i:Int) > 0)=true:=decide_eq_true (by omega);have ha:=HA.out;obtain⟨f',hf'⟩:∃f',f=f'+1:=⟨f-1,by have:=HI.out;omega⟩;subst hf';unfold allL at ha;rw[if_pos hlt]at ha;have hcl:=HG.out.l;have hcn:=HG.out.n;have x0:wr.cell? ⟨lb,0,none⟩=some (.slice A acc.length c):=(Qdl hcl 0).trans rfl
   cases h1:oneL bs i with
   | error q =>
    obtain⟨er,pl⟩:=q;rw[h1]at ha;dsimp only at ha;have HA2:=QA ha;have H1:=QA h1;clear ha h1 HA hcl hcn
    go_upto_region 1 with(go_at_call 172;refine(Qli lo g bs i (by have:=HI.out.1;omega) hl2 _ HG.out.cur).mono ?_;rintro ee w1 ⟨rfl,hb1⟩;have HG1:=QA ((HG.out.below hb1).below (Qco (Below.refl _ _)));have x1:w1.drew.cell? ⟨lb,0,none⟩=some (.slice A acc.length c):=(Qdl HG1.out.l 0).trans rfl;clear hb1)
    refine Qfp (n:=6) (S:=fun w'=>w'.cell? ⟨lb,0,none⟩=some (.slice A acc.length c)) (ds:=[]) (bm 6 0) qq_6 rfl rfl x1 (fun b=>?_);refine pz_ (i:=1) (N:=some 8) (bm 6 2) qq_6 ?_;refine tz_ (i:=0) (N:=some 7) (bm 6 3) qq_6 b ?_;refine one_ (i:=2) (N:=some 9) (bm 6 7) rfl rfl qq_6 (by decide) (fun K hK=>?_);refine goesP_ Tryz.func173 qq_6 rfl #[.pointer (some ⟨g,0,none⟩)] (by rfl) rfl qq_11 ?_;refine(Qoe lo g bs i HB.out HL.out HI.out.1 hlg _ (Nat.le_trans HG1.out.size HG1.out.grow) HG1.out.cur).mono ?_;rw[H1.out];rintro ee w2 ⟨hB2,hne,rfl,j,hI2⟩;have HG2:=QA (HG1.out.go hI2 hB2);refine⟨_,rfl,?_⟩;exact⟨rfl,(show ∃(i':Int) (v':Value),GS w w2 lo g lb bs i' R.2.1 R.1 v'∧((Ending.panicked [Qlb g er]=Ending.returned (.tuple #[])∧R.2.2=0)∨(Ending.panicked [Qlb g er]=Ending.panicked [Qlb g R.2.2]∧R.2.2≠0)) from⟨j,.slice A acc.length c,by rw[HA2.out];exact HG2.out,.inr ⟨by rw[HA2.out],by rw[HA2.out];exact hne⟩⟩)⟩
   | ok q =>
    obtain⟨p,j⟩:=q;rw[h1]at ha;dsimp only at ha;have HA2:=QA ha;have H1:=QA h1;clear ha h1 HA hcl hcn
    go_upto_region 1 with(go_at_call 172;refine(Qli lo g bs i (by have:=HI.out.1;omega) hl2 _ HG.out.cur).mono ?_;rintro ee w1 ⟨rfl,hb1⟩;have HG1:=QA ((HG.out.below hb1).below (Qco (Below.refl _ _)));have x1:w1.drew.cell? ⟨lb,0,none⟩=some (.slice A acc.length c):=(Qdl HG1.out.l 0).trans rfl;clear hb1)
    go_region_law (first
     |(go_simp;go_at_call 173;refine(Qoe lo g bs i HB.out HL.out HI.out.1 hlg _ (Nat.le_trans HG1.out.size HG1.out.grow) HG1.out.cur).mono ?_;rw[H1.out];rintro ee w2 ⟨hB2,rfl,hI2,hij,hjl⟩;have HG2:=QA (HG1.out.go hI2 hB2);have HJ2:=QA (And.intro hij hjl);have x2:w2.cell? ⟨lb,0,none⟩=some (.slice A acc.length c):=(Qdl HG2.out.l 0).trans rfl;have x5:(w2.alloc (.cells #[.string p.f0,.string p.f1] 132)).cell? ⟨lb,0,none⟩=some (.slice A acc.length c):=Qcr (Qcn (Below.refl w2.heap.size _) _) x2;clear hB2 hI2 hij hjl)
     |(refine Kd.R_append_step k132 (w0:=w2) w.heap.size (by rfl) (.tmp 7) (.tmp 10) 130 132 (.agg #[.string (⟨#[]⟩:ByteArray),.string (⟨#[]⟩:ByteArray)]) 32 rfl Tryz.underlying130 Qog rfl (by decide) (by omega) (.slice A acc.length c) acc p [.string p.f0,.string p.f1] (fun _=>True) (fun _=>False) rfl ?ax ?aP (fun _ hk=>hk.elim) (fun _ _=>trivial) ?aO (Below.refl _ _) ?aS ?aL ?_;(case ax=>rfl);(case aP=>exact Qik _ _ _ p);(case aO=>exact HG2.out.rows);(case aS=>exact HG2.out.grow);(case aL=>have:=HI.out;have:=HL.out;omega);intro v3 w3 a hb3 d hat3;obtain⟨A3,c3,hv3⟩:=Kd.R_slice a;subst hv3;have HP3:=HG2.out.app a hb3 d hlg;rw[show(acc++[p]).length=acc.length+1 from List.length_append]at HP3;have x3:w3.frozen? ⟨lb,0,none⟩=false:=Qdm HP3.1 0;have x4:w3.cell? ⟨lb,0,none⟩=some (.slice A acc.length c):=(Qdl HP3.1 0).trans rfl;have HG3:=QA HP3.2;clear a hb3 d hat3 HP3))
    all_goals
     obtain⟨W4,hW4⟩:∃W4,W4=w3.setCell ⟨lb,0,none⟩ (.slice A3 (acc.length+1) c3):=⟨_,rfl⟩;rw[← hW4]at HG3;show Exit.then _ _ Exit.normal _ (w3.setCell ⟨lb,0,none⟩ (.slice A3 (acc.length+1) c3));rw[← hW4];clear hW4 x2 x3 x4 x5
     go_wp2_with (go_at_call 174;refine(cur_At lo g bs (j:Int) _ HG3.out.cur).mono ?_;rintro ee w5 ⟨rfl,hb5⟩;have HG5:=QA (HG3.out.below hb5);have y1:w5.cell? ⟨lb+1,0,none⟩=some (.int .i64 (i:Int)):=(Qdl HG5.out.n 0).trans rfl;have y2:w5.frozen? ⟨lb+1,0,none⟩=false:=Qdm HG5.out.n 0;clear hb5)
     go_roundw
     case rel=>exact⟨j,f',acc++[p],_,⟨by have:=HJ2.out;have:=HI.out;rw[List.length_append];simp only[List.length_singleton];omega⟩,HA2,⟨HG5.out.num hlg _⟩⟩
     case measure =>
      rw[Qof (HG5.out.num hlg (j:Int)).cur,Qof HG.out.cur];have:=HJ2.out;omega
  ·have hgt:decide ((bs.length:Int)-(i:Int) > 0)=false:=decide_eq_false (by omega);have ha:=HA.out;obtain⟨f',hf'⟩:∃f',f=f'+1:=⟨f-1,by have:=HI.out;omega⟩;subst hf';unfold allL at ha;rw[if_neg hlt]at ha;have HA2:=QA ha;clear ha HA
   go_wp2_with (go_at_call 172;refine(Qli lo g bs i (by have:=HI.out.1;omega) hl2 _ HG.out.cur).mono ?_;rintro ee w1 ⟨rfl,hb1⟩;have HG1:=QA (HG.out.below hb1);clear hb1)
   go_end0
   rw[HA2.out];exact⟨_,_,HG1.out,.inl ⟨rfl,rfl⟩⟩
theorem Qoi(as_:Array Value)(W:World):(callFunc 171 as_).run Tryz.prog W=.ok (.enter 171 as_) W:=by
 simp[callFunc,Tryz.func171,Tryz.f171]
def Qoj(l0:List Int)(lb:Nat)(w:World)(er:Int)(w':World):Prop :=
 Below lb w w'∧er=(allL l0 (l0.length+1) 0 []).2.2∧∃v,w'.heap[lb]? = some (.cells #[v] 130 (0,0))∧RP w' lb v (allL l0 (l0.length+1) 0 []).1∧w'.heap[lb+1]? = some (.cells #[.int .i64 (allL l0 (l0.length+1) 0 []).2.1] 3 (0,0))
theorem Qok(A0:Option Addr)(c0:Nat)(l0:List Int)(lb:Nat)(w:World)(hb:CodecP.Bytes l0)(hl:l0.length≤100000000)(hr0:Kd.C (Kd.int .u8) w A0 l0.length l0)
  (hkl:w.heap[lb]? = some (.cells #[.slice none 0 0] 130 (0,0))) (hkn:w.heap[lb+1]? = some (.cells #[.int .i64 0] 3 (0,0))) :
  Calls Tryz.prog 170 #[.slice A0 l0.length c0,.func (.func 171) #[] #[.pointer (some ⟨lb,0,none⟩),.pointer (some ⟨lb+1,0,none⟩)]] w fun e w'=>∃er i,e=.returned (.tuple #[.int .i64 i,.int .i64 er])∧Qoj l0 lb w er w':=by
 have hlt:=Qdk hkn;refine Qlp 171 #[.pointer (some ⟨lb,0,none⟩),.pointer (some ⟨lb+1,0,none⟩)] A0 c0 l0 w hr0 (by omega) Qoi (fun er _ W'=>Qoj l0 lb w er W') ?_ ?_
 ·rintro er i W W' ⟨h1,h2,v,h3,h4,h5⟩ hB hT;exact⟨h1.trans (Qip hB (by omega)),h2,v,(hB.block lb (by omega)).trans h3,h4.ty hT,(hB.block (lb+1) hlt).trans h5⟩
 ·intro W g hg hB hI;have hS:GS W W w.heap.size g lb l0 0 0 [] (.slice none 0 0):=⟨hI,Below.refl _ _,fun k cs t _ h _ _=>h,(hB.block lb (by omega)).trans hkl,Kd.R_nil _ _ _ _ _,(hB.block (lb+1) hlt).trans hkn,hlt,hB.size⟩;refine(Qoh w.heap.size g lb l0 hb hl hg W hS).mono ?_;rintro e W' ⟨i,v,hG,h⟩;have hP:Qoj l0 lb w (allL l0 (l0.length+1) 0 []).2.2 W':=⟨(Qip hB (by omega)).trans hG.low,rfl,v,hG.l,Kd.R_lower hG.rows (by have:=hB.size;omega),hG.n⟩;refine⟨i,hG.cur,hG.tl,?_⟩
  rcases h with⟨h1,h2⟩ |⟨h1,h2⟩
  ·rw[h2]at hP;exact .inl ⟨h1,hP⟩
  ·exact .inr ⟨_,h1,hP⟩
theorem Qol(tmps:Array Value)(W:World)(lb:Nat)(v:Value)(n er:Int)(h2:tmps[2]? = some (.pointer (some ⟨lb,0,none⟩)))(h3:tmps[3]? = some (.pointer (some ⟨lb+1,0,none⟩)))(h4:tmps[4]? = some (.int .i64 er))
  (c2:W.heap[lb]? = some (.cells #[v] 130 (0,0))) (c3:W.heap[lb+1]? = some (.cells #[.int .i64 n] 3 (0,0))) :
  (results Tryz.f113 tmps).run Tryz.prog W=.ok (.tuple #[v,.int .i64 n,.int .i64 er]) W:=by
 have hr:Tryz.f113.results=#[.cell 2 130,.cell 3 3,.tmp 4]:=rfl;have d2:W.cell? ⟨lb,0,none⟩=some v:=(Qdl c2 0).trans rfl;have d3:W.cell? ⟨lb+1,0,none⟩=some (.int .i64 n):=(Qdl c3 0).trans rfl;simp[results,hr,h2,h3,h4,go_sem,loadVar,d2,d3,c2,c3]
theorem Qao.calls(A0:Option Addr)(c0:Nat)(l0:List Int)(r1:List Pr)(r2 r3:Int)(w:World)(hr0:Kd.C (Kd.int .u8) w A0 l0.length l0)(hc0:l0.length≤c0)(h:Qao.f l0=some (r1,r2,r3)) :
  Calls Tryz.prog 113 #[.slice A0 l0.length c0] w fun e w'=>∃a:Value,e=.returned (.tuple #[a,.int .i64 r2,.int .i64 r3])∧Kd.R k132 132 w' w.heap.size (fun _=>True) a r1∧Below w.heap.size w w':=by
 unfold Qao.f at h
 by_cases hg:l0.all (fun x=>decide (0≤x∧x<256))=true∧l0.length≤100000000
 ·rw[if_pos hg,Option.some.injEq]at h;obtain⟨z0,hz0⟩:∃z:Obj,z=.cells #[.slice none 0 0] 130 (0,0):=⟨_,rfl⟩;obtain⟨z1,hz1⟩:∃z:Obj,z=.cells #[.int .i64 0] 3 (0,0):=⟨_,rfl⟩;have b0:Below w.heap.size w ((w.alloc z0).alloc z1):=Qcn (Qcn (Below.refl _ _) _) _;have k0:=Qdv (Qdz w z0) z1;have k1:=Qdz (w.alloc z0) z1;rw[World.size_alloc]at k1;subst hz0 hz1;have hC:=Qok A0 c0 l0 w.heap.size _ (bytes_all.1 hg.1) hg.2 (Kd.C_below hr0 b0) k0 k1;unfold Qoj at hC;rw[h]at hC;have RUN:=QA hC;have B0:=QA b0;have hmf:∀(fn:Fn) (first cap:Array Value) (w:World),(Instr.makeFunc fn first cap).run Tryz.prog w=.ok (.func fn first cap) w:=fun _ _ _ _=>rfl
  clear hg hr0 b0 k0 k1 hC h
  go_enter Tryz.func113,Tryz.ntmps113
  go_upto_region 2 with(go_at_call 170;refine RUN.out.mono ?_;rintro ee w3 ⟨er,i,rfl,hb3,rfl,v,hk0,hR,hk1⟩)
  have b:=QA (B0.out.trans hb3);have c:=QA hR;have HK0:=QA hk0;have HK1:=QA hk1;have m0:=Qdi (w:=w3.drew) hk0 0 v;have m1:=Qdj (w:=w3.drew) hk1 (p:=⟨w.heap.size,0,none⟩) (show w.heap.size+1≠w.heap.size by omega) v;have n0:=Qdj m0 (p:=⟨w.heap.size+1,0,none⟩) (show w.heap.size≠w.heap.size+1 by omega) (.int .i64 r2);have n1:=Qdi m1 0 (.int .i64 r2);have x0:w3.drew.cell? ⟨w.heap.size,0,none⟩=some v:=(Qdl hk0 0).trans rfl;have x1:w3.drew.cell? ⟨w.heap.size+1,0,none⟩=some (.int .i64 r2):=(Qdl hk1 0).trans rfl;have x2:w3.drew.frozen? ⟨w.heap.size,0,none⟩=false:=Qdm (w:=w3.drew) hk0 0;have x3:(w3.drew.setCell ⟨w.heap.size,0,none⟩ v).cell? ⟨w.heap.size+1,0,none⟩=some (.int .i64 r2):=(Qdl m1 0).trans rfl;have x4:(w3.drew.setCell ⟨w.heap.size,0,none⟩ v).frozen? ⟨w.heap.size+1,0,none⟩=false:=Qdm m1 0;have x5:w3.cell? ⟨w.heap.size,0,none⟩=some v:=x0;have x6:w3.cell? ⟨w.heap.size+1,0,none⟩=some (.int .i64 r2):=x1;have x7:w3.frozen? ⟨w.heap.size,0,none⟩=false:=x2;have x8:w3.frozen? ⟨w.heap.size+1,0,none⟩=false:=Qdm hk1 0;obtain⟨A3,c3,hv3⟩:=Kd.R_slice hR;subst hv3;have HN0:=QA n0;have HN1:=QA n1;clear hk0 hk1 hR m0 m1 n0 n1
  go_region
  all_goals
   go_wp2;refine bodyPost_ret (Qol _ _ w.heap.size _ r2 _ rfl rfl rfl HN0.out HN1.out) rfl ?_;refine⟨_,rfl,?_,Qio (Qio (b.out.trans (Qip (Qco (Below.refl _ _)) b.out.size)) (Nat.le_refl _)) (Nat.le_succ _)⟩;exact Kd.R_set (Kd.R_set (w:=w3.drew) c.out HK0.out (by decide) 0 _) (Qdj (w:=w3.drew) HK1.out (p:=⟨w.heap.size,0,none⟩) (show w.heap.size+1≠w.heap.size by omega) _) (by decide) 0 _
 ·rw[if_neg hg]at h;cases h
def chkE(k v:ByteArray):Int:=if(k.size:Int)=0 then 4 else if 4096<(k.size:Int)then 3 else if 1048576<(v.size:Int)then 3 else 0
def Qsr(k v:ByteArray):List Int:=leb k.size 4++leb v.size 4++bytesOf k++bytesOf v
def Qss(k v:ByteArray):List Int:=Qsr k v++leb (Qmc 0 (Qsr k v)) 4
theorem Qst(k v:ByteArray)(hk:k.size≤9223372036854775807)(hv:v.size≤9223372036854775807):Qan.f k v=some (chkE k v):=by
 unfold Qan.f chkE;rw[IntWalk.u64_in _ (by omega),IntWalk.u64_in _ (by omega),Qod,Option.bind_some]
theorem Qsu{k v:ByteArray}(h:chkE k v=0):k.size≤4096∧v.size≤1048576:=by
 unfold chkE at h
 repeat' split at h
 all_goals first|omega|skip
theorem Qsv(sd:Int)(l:List Int):0≤Qmc sd l∧Qmc sd l<4294967296:=by
 obtain⟨n,h⟩:∃n:Int,Qmc sd l=IntKind.u32.wrap n:=⟨_,rfl⟩;rw[h,IntKind.wrap_u32];omega
theorem Qsw(k v:ByteArray):(Qsr k v).length=8+k.size+v.size:=by
 simp only[Qsr,List.length_append,Qin,Qcy]
theorem Qsx(sk sv:ByteArray)(w:World)(c:Int)(hk:sk.size≤9223372036854775807)(hv:sv.size≤9223372036854775807)(hc:chkE sk sv=c)(hn:c≠0) :
  Calls Tryz.prog 116 #[.agg #[.string sk,.string sv]] w fun e w'=>∃v0_:Value,e=.returned (.tuple #[v0_,.int .i64 c])∧R8 w' w.heap.size v0_ []∧Below w.heap.size w w':=by
 have hu:=Tryz.underlying132;have hcheck:=Qst sk sv hk hv;rw[hc]at hcheck;have HC:=QA hcheck;have hn1:(c == 0)=false:=by simpa using hn
 have hn2:(c != 0)=true:=by simpa using hn
 clear hcheck hc;have hba:Below w.heap.size w (w.alloc (.cells #[.string sk,.string sv] 132)):=Qcn (Below.refl _ _) _
 go_enter Tryz.func116,Tryz.ntmps116
 go_wp2_with (go_at_call 175;refine(Qan.calls sk sv c _ HC.out).mono ?_;rintro e w1 ⟨rfl,hb1⟩)
 refine bodyPost_ret (results_tmp2 rfl _ _ _) rfl ?_;exact⟨_,rfl,Kd.R_nil _ _ _ _ _,Qcq hba hba.size hb1⟩
theorem pute_of (sk sv:ByteArray) (w:World) (hc:chkE sk sv=0) :
  Calls Tryz.prog 116 #[.agg #[.string sk,.string sv]] w fun e w'=>∃d:Value,e=.returned (.tuple #[d,.int .i64 0])∧R8 w' w.heap.size d (Qss sk sv)∧Below w.heap.size w w':=by
 have hu:=Tryz.underlying132;obtain⟨hz1,hz2⟩:=Qsu hc;have hcheck:=Qst sk sv (by omega) (by omega);rw[hc]at hcheck;have HC:=QA hcheck;obtain⟨k,hk⟩:∃k:Int,k=(sk.size:Int):=⟨_,rfl⟩;obtain⟨v,hv⟩:∃v:Int,v=(sv.size:Int):=⟨_,rfl⟩;have HKR:=QA (show 0≤k∧k<4294967296 by omega);have HVR:=QA (show 0≤v∧v<4294967296 by omega);have HSZ:=QA (show sk.size+sv.size≤1000000000 by omega);have HZK:=QA (show sk.size≤1000000000 by omega);have HZV:=QA (show sv.size≤1000000000 by omega);have hwk:IntKind.u32.wrap (sk.size:Int)=k:=(IntWalk.u32_in _ (by omega)).trans hk.symm;have hwv:IntKind.u32.wrap (sv.size:Int)=v:=(IntWalk.u32_in _ (by omega)).trans hv.symm;have HKV:=QA (And.intro hk hv);clear hcheck hc hk hv hz1 hz2;obtain⟨p,hp⟩:∃p,p=w.heap.size:=⟨_,rfl⟩;have hbx:Below w.heap.size w (w.alloc (.cells #[.string sk,.string sv] 132)):=Qcn (Below.refl _ _) _;have kbx:=Qdz w (.cells #[.string sk,.string sv] 132);obtain⟨c0,c1,_,_⟩:=Qnz kbx;have KB:=QA kbx;have HB:=QA hbx;clear kbx hbx
 go_enter Tryz.func116,Tryz.ntmps116
 go_upto_region 5 with(go_at_call 175;refine(Qan.calls sk sv 0 _ HC.out).mono ?_;rintro e w1 ⟨rfl,hb1⟩;have g:=QA (HB.out.trans (Qip hb1 HB.out.size));have KB1:=QA (Qdy KB.out hb1);clear hb1 c0 c1)
 obtain⟨gB,hgB⟩:∃gB,gB=w1.heap.size:=⟨_,rfl⟩;obtain⟨wA,hwA⟩:∃wA,wA=w1.alloc (.cells #[.slice none 0 0] 207):=⟨_,rfl⟩;have HBA:=QA (show Below w1.heap.size w1 wA by rw[hwA];exact Qcn (Below.refl _ _) _);have hQ0:Q9 wA wA.drew gB [] false false sk sv (0,0,0,0):=by
  rw[hwA,hgB];exact⟨(IsBuf.new w1 w1.heap.size).kept (Qco (Below.refl _ _)),Bw.below (Qco (Below.refl _ _)) (Qcn (Below.refl w1.heap.size w1) _).size,(Qcn (Below.refl w1.heap.size w1) _).size,by simp,by simp⟩
 have kA:=Qdy KB1.out HBA.out;have HP:=QA (show p<gB by rw[hp,hgB];exact Qdk KB1.out);rw[← hp]at kA;obtain⟨c0,c1,_,_⟩:=Qnz kA;rw[← hwA,← hgB];have HGB:=QA hgB;have HPW:=QA hp
 try rw[← hp]
 have kbk:=fun W=>Qda (P:=Tryz.prog) 9 47 5 Tryz.underlying9 Tryz.underlying47 Tryz.underlying5 sk W
 have kbv:=fun W=>Qda (P:=Tryz.prog) 9 47 5 Tryz.underlying9 Tryz.underlying47 Tryz.underlying5 sv W
 have HQ:=QA hQ0;clear hQ0 hwA hgB kA hp;refine Qfp (n:=18) (S:=fun w'=>w'.cell? ⟨p,0,none⟩=some (.string sk)∧w'.cell? ⟨p,1,none⟩=some (.string sv)) (ds:=[]) (bm 18 0) qq_6 rfl rfl ⟨(Qcr (Qco (Below.refl _ _)) c0),(Qcr (Qco (Below.refl _ _)) c1)⟩ (fun a=>?_);refine pz_ (i:=0) (N:=some 11) (bm 18 1) qq_6 ?_;refine pz_ (i:=5) (N:=some 16) (bm 18 33) qq_6 ?_;refine pz_ (i:=10) (N:=some 21) (bm 18 1057) qq_6 ?_;refine pz_ (i:=14) (N:=some 25) (bm 18 17441) qq_6 ?_;refine tz_ (i:=1) (N:=some 12) (bm 18 17443) qq_6 a ?_;refine pz_ (i:=2) (N:=some 13) (bm 18 17447) qq_6 ?_;refine pz_ (i:=3) (N:=some 14) (bm 18 17455) qq_6 ?_;refine tz_ (i:=6) (N:=some 17) (bm 18 17519) qq_6 a ?_;refine pz_ (i:=7) (N:=some 18) (bm 18 17647) qq_6 ?_;refine pz_ (i:=8) (N:=some 19) (bm 18 17903) qq_6 ?_;refine tz_ (i:=11) (N:=some 22) (bm 18 19951) qq_6 a ?_;refine tz_ (i:=15) (N:=some 26) (bm 18 52719) qq_6 a ?_;refine Qfv (σ:=Nat × Nat × Nat × Nat) 1 (bm 18 131071) (fun s_=>[(15,.pointer (some ⟨gB,0,none⟩)),(20,.pointer (some ⟨gB,0,none⟩)),(23,.slice (some ⟨s_.1,0,none⟩) sk.size s_.2.1),(24,.pointer (some ⟨gB,0,none⟩)),(27,.slice (some ⟨s_.2.2.1,0,none⟩) sv.size s_.2.2.2)]) (fun s_ w'=>(w'.cell? ⟨p,0,none⟩=some (.string sk)∧w'.cell? ⟨p,1,none⟩=some (.string sv))∧Q9 wA w' gB (((([]:List Int)++leb k 4)++leb v 4)++bytesOf sk) true true sk sv s_) ?_ ?_;rotate_left
 ·intro hJ4_9_12_13_16;refine Qfv (σ:=Nat × Nat × Nat × Nat) 2 (bm 18 65535) (fun s_=>[(15,.pointer (some ⟨gB,0,none⟩)),(20,.pointer (some ⟨gB,0,none⟩)),(23,.slice (some ⟨s_.1,0,none⟩) sk.size s_.2.1),(24,.pointer (some ⟨gB,0,none⟩))]) (fun s_ w'=>(w'.cell? ⟨p,0,none⟩=some (.string sk)∧w'.cell? ⟨p,1,none⟩=some (.string sv))∧Q9 wA w' gB (((([]:List Int)++leb k 4)++leb v 4)++bytesOf sk) true false sk sv s_) ?_ ?_;rotate_left
  ·intro hJ4_9_12_13;refine Qfv (σ:=Nat × Nat × Nat × Nat) 2 (bm 18 122879) (fun s_=>[(15,.pointer (some ⟨gB,0,none⟩)),(20,.pointer (some ⟨gB,0,none⟩)),(23,.slice (some ⟨s_.1,0,none⟩) sk.size s_.2.1),(27,.slice (some ⟨s_.2.2.1,0,none⟩) sv.size s_.2.2.2)]) (fun s_ w'=>(w'.cell? ⟨p,0,none⟩=some (.string sk)∧w'.cell? ⟨p,1,none⟩=some (.string sv))∧Q9 wA w' gB ((([]:List Int)++leb k 4)++leb v 4) true true sk sv s_) ?_ ?_;rotate_left
   ·intro hJ4_9_12_16;refine Qfv (σ:=Nat × Nat × Nat × Nat) 3 (bm 18 57343) (fun s_=>[(15,.pointer (some ⟨gB,0,none⟩)),(20,.pointer (some ⟨gB,0,none⟩)),(23,.slice (some ⟨s_.1,0,none⟩) sk.size s_.2.1)]) (fun s_ w'=>(w'.cell? ⟨p,0,none⟩=some (.string sk)∧w'.cell? ⟨p,1,none⟩=some (.string sv))∧Q9 wA w' gB ((([]:List Int)++leb k 4)++leb v 4) true false sk sv s_) ?_ ?_;rotate_left
    ·intro hJ4_9_12;refine Qfv (σ:=Nat × Nat × Nat × Nat) 3 (bm 18 118783) (fun s_=>[(15,.pointer (some ⟨gB,0,none⟩)),(20,.pointer (some ⟨gB,0,none⟩)),(27,.slice (some ⟨s_.2.2.1,0,none⟩) sv.size s_.2.2.2)]) (fun s_ w'=>(w'.cell? ⟨p,0,none⟩=some (.string sk)∧w'.cell? ⟨p,1,none⟩=some (.string sv))∧Q9 wA w' gB ((([]:List Int)++leb k 4)++leb v 4) false true sk sv s_) ?_ ?_;rotate_left
     ·intro hJ4_9_16;refine Qfv (σ:=Nat × Nat × Nat × Nat) 3 (bm 18 122367) (fun s_=>[(15,.pointer (some ⟨gB,0,none⟩)),(23,.slice (some ⟨s_.1,0,none⟩) sk.size s_.2.1),(27,.slice (some ⟨s_.2.2.1,0,none⟩) sv.size s_.2.2.2)]) (fun s_ w'=>(w'.cell? ⟨p,0,none⟩=some (.string sk)∧w'.cell? ⟨p,1,none⟩=some (.string sv))∧Q9 wA w' gB (([]:List Int)++leb k 4) true true sk sv s_) ?_ ?_;rotate_left
      ·intro hJ4_12_16;refine Qfv (σ:=Nat × Nat × Nat × Nat) 4 (bm 18 53247) (fun s_=>[(15,.pointer (some ⟨gB,0,none⟩)),(20,.pointer (some ⟨gB,0,none⟩))]) (fun s_ w'=>(w'.cell? ⟨p,0,none⟩=some (.string sk)∧w'.cell? ⟨p,1,none⟩=some (.string sv))∧Q9 wA w' gB ((([]:List Int)++leb k 4)++leb v 4) false false sk sv s_) ?_ ?_;rotate_left
       ·intro hJ4_9;refine Qfv (σ:=Nat × Nat × Nat × Nat) 4 (bm 18 56831) (fun s_=>[(15,.pointer (some ⟨gB,0,none⟩)),(23,.slice (some ⟨s_.1,0,none⟩) sk.size s_.2.1)]) (fun s_ w'=>(w'.cell? ⟨p,0,none⟩=some (.string sk)∧w'.cell? ⟨p,1,none⟩=some (.string sv))∧Q9 wA w' gB (([]:List Int)++leb k 4) true false sk sv s_) ?_ ?_;rotate_left
        ·intro hJ4_12;refine Qfv (σ:=Nat × Nat × Nat × Nat) 4 (bm 18 118271) (fun s_=>[(15,.pointer (some ⟨gB,0,none⟩)),(27,.slice (some ⟨s_.2.2.1,0,none⟩) sv.size s_.2.2.2)]) (fun s_ w'=>(w'.cell? ⟨p,0,none⟩=some (.string sk)∧w'.cell? ⟨p,1,none⟩=some (.string sv))∧Q9 wA w' gB (([]:List Int)++leb k 4) false true sk sv s_) ?_ ?_;rotate_left
         ·intro hJ4_16;refine Qfv (σ:=Nat × Nat × Nat × Nat) 4 (bm 18 122351) (fun s_=>[(23,.slice (some ⟨s_.1,0,none⟩) sk.size s_.2.1),(27,.slice (some ⟨s_.2.2.1,0,none⟩) sv.size s_.2.2.2)]) (fun s_ w'=>(w'.cell? ⟨p,0,none⟩=some (.string sk)∧w'.cell? ⟨p,1,none⟩=some (.string sv))∧Q9 wA w' gB ([]:List Int) true true sk sv s_) ?_ ?_;rotate_left
          ·intro hJ12_16;refine Qfv (σ:=Nat × Nat × Nat × Nat) 5 (bm 18 52735) (fun s_=>[(15,.pointer (some ⟨gB,0,none⟩))]) (fun s_ w'=>(w'.cell? ⟨p,0,none⟩=some (.string sk)∧w'.cell? ⟨p,1,none⟩=some (.string sv))∧Q9 wA w' gB (([]:List Int)++leb k 4) false false sk sv s_) ?_ ?_;rotate_left
           ·intro hJ4;refine Qfv (σ:=Nat × Nat × Nat × Nat) 5 (bm 18 56815) (fun s_=>[(23,.slice (some ⟨s_.1,0,none⟩) sk.size s_.2.1)]) (fun s_ w'=>(w'.cell? ⟨p,0,none⟩=some (.string sk)∧w'.cell? ⟨p,1,none⟩=some (.string sv))∧Q9 wA w' gB ([]:List Int) true false sk sv s_) ?_ ?_;rotate_left
            ·intro hJ12;refine Qfv (σ:=Nat × Nat × Nat × Nat) 5 (bm 18 118255) (fun s_=>[(27,.slice (some ⟨s_.2.2.1,0,none⟩) sv.size s_.2.2.2)]) (fun s_ w'=>(w'.cell? ⟨p,0,none⟩=some (.string sk)∧w'.cell? ⟨p,1,none⟩=some (.string sv))∧Q9 wA w' gB ([]:List Int) false true sk sv s_) ?_ ?_;rotate_left
             ·intro hJ16;refine Qft (i:=4) (j:=12) (k:=16) (Ni:=some 15) (Nj:=some 23) (Nk:=some 27) (bm 18 52735) (bm 18 56815) (bm 18 118255) rfl rfl rfl rfl rfl rfl qq_6 (by decide) (by decide) (by decide) (fun K hK=>?_) (fun K hK=>?_) (fun K hK=>?_)
              ·skip
               refine Qfy Tryz.func142 qq_6 rfl #[.pointer (some ⟨gB,0,none⟩),.int .u32 k] (by rfl) rfl rfl qq_11 ?_;with_reducible refine(Q9.goFour k HQ.out HKR.out.1 HKR.out.2 HSZ.out qq_25).mono ?_
               rintro ee wt_ ⟨rfl,hI_,hB_,hO_⟩;refine⟨_,rfl,?_⟩;refine hK.out _ _ ⟨(Qob hB_.1 HP.out a.1),(Qob hB_.1 HP.out a.2)⟩ (fun a=>?_);clear hK K;refine nzp_ 15 ?_;exact Qfw qq_1 (hJ4 (0,0,0,0) _ ⟨a,HQ.out.step hI_ hB_ hO_⟩)
              ·skip
               refine Qga (w1:=?_) (v:=?_) (by rfl) rfl ?_ ?_;rotate_left 2
               ·go_simp
                constructor
                ·rfl
                ·rfl
               refine hK.out _ _ ⟨(Qcr (Qdc (Below.refl _ _) (Nat.le_refl _) 5 sk) a.1),(Qcr (Qdc (Below.refl _ _) (Nat.le_refl _) 5 sk) a.2)⟩ (fun a=>?_);clear hK K;refine nzp_ 23 ?_;exact Qfw qq_1 (hJ12 (_,_,0,0) _ ⟨a,HQ.out.new6⟩)
              ·skip
               refine Qga (w1:=?_) (v:=?_) (by rfl) rfl ?_ ?_;rotate_left 2
               ·go_simp
                constructor
                ·rfl
                ·rfl
               refine hK.out _ _ ⟨(Qcr (Qdc (Below.refl _ _) (Nat.le_refl _) 5 sv) a.1),(Qcr (Qdc (Below.refl _ _) (Nat.le_refl _) 5 sv) a.2)⟩ (fun a=>?_);clear hK K;refine nzp_ 27 ?_;exact Qfw qq_1 (hJ16 (0,0,_,_) _ ⟨a,HQ.out.new10⟩)
             ·skip
              rintro⟨a_,ca_,b_,cb_⟩ wne_ ⟨hH_,HQ_⟩;clear a HQ;have a:=hH_;have HQ:=QA HQ_;clear HQ_ hH_;refine nza_ ?_;refine two_ (i:=4) (j:=12) (Ni:=some 15) (Nj:=some 23) (bm 18 118271) (bm 18 122351) rfl rfl rfl rfl qq_6 (by decide) (by decide) (fun K hK=>?_) (fun K hK=>?_)
              ·skip
               refine Qfy Tryz.func142 qq_6 rfl #[.pointer (some ⟨gB,0,none⟩),.int .u32 k] (by rfl) rfl rfl qq_11 ?_;with_reducible refine(Q9.goFour k HQ.out HKR.out.1 HKR.out.2 HSZ.out qq_25).mono ?_
               rintro ee wt_ ⟨rfl,hI_,hB_,hO_⟩;refine⟨_,rfl,?_⟩;refine hK.out _ _ ⟨(Qob hB_.1 HP.out a.1),(Qob hB_.1 HP.out a.2)⟩ (fun a=>?_);clear hK K;refine nzp_ 15 ?_;exact Qfw qq_1 (hJ4_16 (a_,ca_,b_,cb_) _ ⟨a,HQ.out.step hI_ hB_ hO_⟩)
              ·skip
               refine Qga (w1:=?_) (v:=?_) (by rfl) rfl ?_ ?_;rotate_left 2
               ·go_simp
                constructor
                ·rfl
                ·rfl
               refine hK.out _ _ ⟨(Qcr (Qdc (Below.refl _ _) (Nat.le_refl _) 5 sk) a.1),(Qcr (Qdc (Below.refl _ _) (Nat.le_refl _) 5 sk) a.2)⟩ (fun a=>?_);clear hK K;refine nzp_ 23 ?_;exact Qfw qq_1 (hJ12_16 (_,_,b_,cb_) _ ⟨a,HQ.out.new6⟩)
            ·skip
             rintro⟨a_,ca_,b_,cb_⟩ wnc_ ⟨hH_,HQ_⟩;clear a HQ;have a:=hH_;have HQ:=QA HQ_;clear HQ_ hH_;refine nza_ ?_;refine two_ (i:=4) (j:=16) (Ni:=some 15) (Nj:=some 27) (bm 18 56831) (bm 18 122351) rfl rfl rfl rfl qq_6 (by decide) (by decide) (fun K hK=>?_) (fun K hK=>?_)
             ·skip
              refine Qfy Tryz.func142 qq_6 rfl #[.pointer (some ⟨gB,0,none⟩),.int .u32 k] (by rfl) rfl rfl qq_11 ?_;with_reducible refine(Q9.goFour k HQ.out HKR.out.1 HKR.out.2 HSZ.out qq_25).mono ?_
              rintro ee wt_ ⟨rfl,hI_,hB_,hO_⟩;refine⟨_,rfl,?_⟩;refine hK.out _ _ ⟨(Qob hB_.1 HP.out a.1),(Qob hB_.1 HP.out a.2)⟩ (fun a=>?_);clear hK K;refine nzp_ 15 ?_;exact Qfw qq_1 (hJ4_12 (a_,ca_,b_,cb_) _ ⟨a,HQ.out.step hI_ hB_ hO_⟩)
             ·skip
              refine Qga (w1:=?_) (v:=?_) (by rfl) rfl ?_ ?_;rotate_left 2
              ·go_simp
               constructor
               ·rfl
               ·rfl
              refine hK.out _ _ ⟨(Qcr (Qdc (Below.refl _ _) (Nat.le_refl _) 5 sv) a.1),(Qcr (Qdc (Below.refl _ _) (Nat.le_refl _) 5 sv) a.2)⟩ (fun a=>?_);clear hK K;refine nzp_ 27 ?_;exact Qfw qq_1 (hJ12_16 (a_,ca_,_,_) _ ⟨a,HQ.out.new10⟩)
           ·skip
            rintro⟨a_,ca_,b_,cb_⟩ wna_ ⟨hH_,HQ_⟩;clear a HQ;have a:=hH_;have HQ:=QA HQ_;clear HQ_ hH_;refine nza_ ?_;refine Qft (i:=9) (j:=12) (k:=16) (Ni:=some 20) (Nj:=some 23) (Nk:=some 27) (bm 18 53247) (bm 18 56831) (bm 18 118271) rfl rfl rfl rfl rfl rfl qq_6 (by decide) (by decide) (by decide) (fun K hK=>?_) (fun K hK=>?_) (fun K hK=>?_)
            ·skip
             refine Qfy Tryz.func142 qq_6 rfl #[.pointer (some ⟨gB,0,none⟩),.int .u32 v] (by rfl) rfl rfl qq_11 ?_;with_reducible refine(Q9.goFour v HQ.out HVR.out.1 HVR.out.2 HSZ.out qq_25).mono ?_
             rintro ee wt_ ⟨rfl,hI_,hB_,hO_⟩;refine⟨_,rfl,?_⟩;refine hK.out _ _ ⟨(Qob hB_.1 HP.out a.1),(Qob hB_.1 HP.out a.2)⟩ (fun a=>?_);clear hK K;refine nzp_ 20 ?_;exact Qfw qq_1 (hJ4_9 (a_,ca_,b_,cb_) _ ⟨a,HQ.out.step hI_ hB_ hO_⟩)
            ·skip
             refine Qga (w1:=?_) (v:=?_) (by rfl) rfl ?_ ?_;rotate_left 2
             ·go_simp
              constructor
              ·rfl
              ·rfl
             refine hK.out _ _ ⟨(Qcr (Qdc (Below.refl _ _) (Nat.le_refl _) 5 sk) a.1),(Qcr (Qdc (Below.refl _ _) (Nat.le_refl _) 5 sk) a.2)⟩ (fun a=>?_);clear hK K;refine nzp_ 23 ?_;exact Qfw qq_1 (hJ4_12 (_,_,b_,cb_) _ ⟨a,HQ.out.new6⟩)
            ·skip
             refine Qga (w1:=?_) (v:=?_) (by rfl) rfl ?_ ?_;rotate_left 2
             ·go_simp
              constructor
              ·rfl
              ·rfl
             refine hK.out _ _ ⟨(Qcr (Qdc (Below.refl _ _) (Nat.le_refl _) 5 sv) a.1),(Qcr (Qdc (Below.refl _ _) (Nat.le_refl _) 5 sv) a.2)⟩ (fun a=>?_);clear hK K;refine nzp_ 27 ?_;exact Qfw qq_1 (hJ4_16 (a_,ca_,_,_) _ ⟨a,HQ.out.new10⟩)
          ·skip
           rintro⟨a_,ca_,b_,cb_⟩ wnce_ ⟨hH_,HQ_⟩;clear a HQ;have a:=hH_;have HQ:=QA HQ_;clear HQ_ hH_;refine nza_ ?_;refine one_ (i:=4) (N:=some 15) (bm 18 122367) rfl rfl qq_6 (by decide) (fun K hK=>?_);refine Qfy Tryz.func142 qq_6 rfl #[.pointer (some ⟨gB,0,none⟩),.int .u32 k] (by rfl) rfl rfl qq_11 ?_;with_reducible refine(Q9.goFour k HQ.out HKR.out.1 HKR.out.2 HSZ.out qq_25).mono ?_
           rintro ee wt_ ⟨rfl,hI_,hB_,hO_⟩;refine⟨_,rfl,?_⟩;refine hK.out _ _ ⟨(Qob hB_.1 HP.out a.1),(Qob hB_.1 HP.out a.2)⟩ (fun a=>?_);clear hK K;refine nzp_ 15 ?_;exact Qfw qq_1 (hJ4_12_16 (a_,ca_,b_,cb_) _ ⟨a,HQ.out.step hI_ hB_ hO_⟩)
         ·skip
          rintro⟨a_,ca_,b_,cb_⟩ wnae_ ⟨hH_,HQ_⟩;clear a HQ;have a:=hH_;have HQ:=QA HQ_;clear HQ_ hH_;refine nza_ ?_;refine two_ (i:=9) (j:=12) (Ni:=some 20) (Nj:=some 23) (bm 18 118783) (bm 18 122367) rfl rfl rfl rfl qq_6 (by decide) (by decide) (fun K hK=>?_) (fun K hK=>?_)
          ·skip
           refine Qfy Tryz.func142 qq_6 rfl #[.pointer (some ⟨gB,0,none⟩),.int .u32 v] (by rfl) rfl rfl qq_11 ?_;with_reducible refine(Q9.goFour v HQ.out HVR.out.1 HVR.out.2 HSZ.out qq_25).mono ?_
           rintro ee wt_ ⟨rfl,hI_,hB_,hO_⟩;refine⟨_,rfl,?_⟩;refine hK.out _ _ ⟨(Qob hB_.1 HP.out a.1),(Qob hB_.1 HP.out a.2)⟩ (fun a=>?_);clear hK K;refine nzp_ 20 ?_;exact Qfw qq_1 (hJ4_9_16 (a_,ca_,b_,cb_) _ ⟨a,HQ.out.step hI_ hB_ hO_⟩)
          ·skip
           refine Qga (w1:=?_) (v:=?_) (by rfl) rfl ?_ ?_;rotate_left 2
           ·go_simp
            constructor
            ·rfl
            ·rfl
           refine hK.out _ _ ⟨(Qcr (Qdc (Below.refl _ _) (Nat.le_refl _) 5 sk) a.1),(Qcr (Qdc (Below.refl _ _) (Nat.le_refl _) 5 sk) a.2)⟩ (fun a=>?_);clear hK K;refine nzp_ 23 ?_;exact Qfw qq_1 (hJ4_12_16 (_,_,b_,cb_) _ ⟨a,HQ.out.new6⟩)
        ·skip
         rintro⟨a_,ca_,b_,cb_⟩ wnac_ ⟨hH_,HQ_⟩;clear a HQ;have a:=hH_;have HQ:=QA HQ_;clear HQ_ hH_;refine nza_ ?_;refine two_ (i:=9) (j:=16) (Ni:=some 20) (Nj:=some 27) (bm 18 57343) (bm 18 122367) rfl rfl rfl rfl qq_6 (by decide) (by decide) (fun K hK=>?_) (fun K hK=>?_)
         ·skip
          refine Qfy Tryz.func142 qq_6 rfl #[.pointer (some ⟨gB,0,none⟩),.int .u32 v] (by rfl) rfl rfl qq_11 ?_;with_reducible refine(Q9.goFour v HQ.out HVR.out.1 HVR.out.2 HSZ.out qq_25).mono ?_
          rintro ee wt_ ⟨rfl,hI_,hB_,hO_⟩;refine⟨_,rfl,?_⟩;refine hK.out _ _ ⟨(Qob hB_.1 HP.out a.1),(Qob hB_.1 HP.out a.2)⟩ (fun a=>?_);clear hK K;refine nzp_ 20 ?_;exact Qfw qq_1 (hJ4_9_12 (a_,ca_,b_,cb_) _ ⟨a,HQ.out.step hI_ hB_ hO_⟩)
         ·skip
          refine Qga (w1:=?_) (v:=?_) (by rfl) rfl ?_ ?_;rotate_left 2
          ·go_simp
           constructor
           ·rfl
           ·rfl
          refine hK.out _ _ ⟨(Qcr (Qdc (Below.refl _ _) (Nat.le_refl _) 5 sv) a.1),(Qcr (Qdc (Below.refl _ _) (Nat.le_refl _) 5 sv) a.2)⟩ (fun a=>?_);clear hK K;refine nzp_ 27 ?_;exact Qfw qq_1 (hJ4_12_16 (a_,ca_,_,_) _ ⟨a,HQ.out.new10⟩)
       ·skip
        rintro⟨a_,ca_,b_,cb_⟩ wnab_ ⟨hH_,HQ_⟩;clear a HQ;have a:=hH_;have HQ:=QA HQ_;clear HQ_ hH_;refine nza_ ?_;refine two_ (i:=12) (j:=16) (Ni:=some 23) (Nj:=some 27) (bm 18 57343) (bm 18 118783) rfl rfl rfl rfl qq_6 (by decide) (by decide) (fun K hK=>?_) (fun K hK=>?_)
        ·skip
         refine Qga (w1:=?_) (v:=?_) (by rfl) rfl ?_ ?_;rotate_left 2
         ·go_simp
          constructor
          ·rfl
          ·rfl
         refine hK.out _ _ ⟨(Qcr (Qdc (Below.refl _ _) (Nat.le_refl _) 5 sk) a.1),(Qcr (Qdc (Below.refl _ _) (Nat.le_refl _) 5 sk) a.2)⟩ (fun a=>?_);clear hK K;refine nzp_ 23 ?_;exact Qfw qq_1 (hJ4_9_12 (_,_,b_,cb_) _ ⟨a,HQ.out.new6⟩)
        ·skip
         refine Qga (w1:=?_) (v:=?_) (by rfl) rfl ?_ ?_;rotate_left 2
         ·go_simp
          constructor
          ·rfl
          ·rfl
         refine hK.out _ _ ⟨(Qcr (Qdc (Below.refl _ _) (Nat.le_refl _) 5 sv) a.1),(Qcr (Qdc (Below.refl _ _) (Nat.le_refl _) 5 sv) a.2)⟩ (fun a=>?_);clear hK K;refine nzp_ 27 ?_;exact Qfw qq_1 (hJ4_9_16 (a_,ca_,_,_) _ ⟨a,HQ.out.new10⟩)
      ·skip
       rintro⟨a_,ca_,b_,cb_⟩ wnace_ ⟨hH_,HQ_⟩;clear a HQ;have a:=hH_;have HQ:=QA HQ_;clear HQ_ hH_;refine nza_ ?_;refine one_ (i:=9) (N:=some 20) (bm 18 122879) rfl rfl qq_6 (by decide) (fun K hK=>?_);refine Qfy Tryz.func142 qq_6 rfl #[.pointer (some ⟨gB,0,none⟩),.int .u32 v] (by rfl) rfl rfl qq_11 ?_;with_reducible refine(Q9.goFour v HQ.out HVR.out.1 HVR.out.2 HSZ.out qq_25).mono ?_
       rintro ee wt_ ⟨rfl,hI_,hB_,hO_⟩;refine⟨_,rfl,?_⟩;refine hK.out _ _ ⟨(Qob hB_.1 HP.out a.1),(Qob hB_.1 HP.out a.2)⟩ (fun a=>?_);clear hK K;refine nzp_ 20 ?_;exact Qfw qq_1 (hJ4_9_12_16 (a_,ca_,b_,cb_) _ ⟨a,HQ.out.step hI_ hB_ hO_⟩)
     ·skip
      rintro⟨a_,ca_,b_,cb_⟩ wnabe_ ⟨hH_,HQ_⟩;clear a HQ;have a:=hH_;have HQ:=QA HQ_;clear HQ_ hH_;refine nza_ ?_;refine one_ (i:=12) (N:=some 23) (bm 18 122879) rfl rfl qq_6 (by decide) (fun K hK=>?_);refine Qga (w1:=?_) (v:=?_) (by rfl) rfl ?_ ?_;rotate_left 2
      ·go_simp
       constructor
       ·rfl
       ·rfl
      refine hK.out _ _ ⟨(Qcr (Qdc (Below.refl _ _) (Nat.le_refl _) 5 sk) a.1),(Qcr (Qdc (Below.refl _ _) (Nat.le_refl _) 5 sk) a.2)⟩ (fun a=>?_);clear hK K;refine nzp_ 23 ?_;exact Qfw qq_1 (hJ4_9_12_16 (_,_,b_,cb_) _ ⟨a,HQ.out.new6⟩)
    ·skip
     rintro⟨a_,ca_,b_,cb_⟩ wnabc_ ⟨hH_,HQ_⟩;clear a HQ;have a:=hH_;have HQ:=QA HQ_;clear HQ_ hH_;refine nza_ ?_;refine two_ (i:=13) (j:=16) (Ni:=some 24) (Nj:=some 27) (bm 18 65535) (bm 18 122879) rfl rfl rfl rfl qq_6 (by decide) (by decide) (fun K hK=>?_) (fun K hK=>?_)
     ·skip
      refine Qfy Tryz.func117 qq_6 rfl #[.pointer (some ⟨gB,0,none⟩),.slice (some ⟨a_,0,none⟩) sk.size ca_] (by rfl) rfl rfl qq_11 ?_;with_reducible refine(Q9.goRaw ca_ HQ.out HQ.out.row6 HZK.out qq_22).mono ?_
      rintro ee wt_ ⟨rfl,hI_,hB_,hO_⟩;refine⟨_,rfl,?_⟩;refine hK.out _ _ ⟨(Qob hB_.1 HP.out a.1),(Qob hB_.1 HP.out a.2)⟩ (fun a=>?_);clear hK K;refine nzp_ 24 ?_;exact Qfw qq_1 (hJ4_9_12_13 (a_,ca_,b_,cb_) _ ⟨a,HQ.out.step hI_ hB_ hO_⟩)
     ·skip
      refine Qga (w1:=?_) (v:=?_) (by rfl) rfl ?_ ?_;rotate_left 2
      ·go_simp
       constructor
       ·rfl
       ·rfl
      refine hK.out _ _ ⟨(Qcr (Qdc (Below.refl _ _) (Nat.le_refl _) 5 sv) a.1),(Qcr (Qdc (Below.refl _ _) (Nat.le_refl _) 5 sv) a.2)⟩ (fun a=>?_);clear hK K;refine nzp_ 27 ?_;exact Qfw qq_1 (hJ4_9_12_16 (a_,ca_,_,_) _ ⟨a,HQ.out.new10⟩)
   ·skip
    rintro⟨a_,ca_,b_,cb_⟩ wnabce_ ⟨hH_,HQ_⟩;clear a HQ;have a:=hH_;have HQ:=QA HQ_;clear HQ_ hH_;refine nza_ ?_;refine one_ (i:=13) (N:=some 24) (bm 18 131071) rfl rfl qq_6 (by decide) (fun K hK=>?_);refine Qfy Tryz.func117 qq_6 rfl #[.pointer (some ⟨gB,0,none⟩),.slice (some ⟨a_,0,none⟩) sk.size ca_] (by rfl) rfl rfl qq_11 ?_;with_reducible refine(Q9.goRaw ca_ HQ.out HQ.out.row6 HZK.out qq_22).mono ?_
    rintro ee wt_ ⟨rfl,hI_,hB_,hO_⟩;refine⟨_,rfl,?_⟩;refine hK.out _ _ ⟨(Qob hB_.1 HP.out a.1),(Qob hB_.1 HP.out a.2)⟩ (fun a=>?_);clear hK K;refine nzp_ 24 ?_;exact Qfw qq_1 (hJ4_9_12_13_16 (a_,ca_,b_,cb_) _ ⟨a,HQ.out.step hI_ hB_ hO_⟩)
  ·skip
   rintro⟨a_,ca_,b_,cb_⟩ wnabcd_ ⟨hH_,HQ_⟩;clear a HQ;have a:=hH_;have HQ:=QA HQ_;clear HQ_ hH_;refine nza_ ?_;refine one_ (i:=16) (N:=some 27) (bm 18 131071) rfl rfl qq_6 (by decide) (fun K hK=>?_);refine Qga (w1:=?_) (v:=?_) (by rfl) rfl ?_ ?_;rotate_left 2
   ·go_simp
    constructor
    ·rfl
    ·rfl
   refine hK.out _ _ ⟨(Qcr (Qdc (Below.refl _ _) (Nat.le_refl _) 5 sv) a.1),(Qcr (Qdc (Below.refl _ _) (Nat.le_refl _) 5 sv) a.2)⟩ (fun a=>?_);clear hK K;refine nzp_ 27 ?_;exact Qfw qq_1 (hJ4_9_12_13_16 (a_,ca_,_,_) _ ⟨a,HQ.out.new10⟩)
 rintro⟨a_,ca_,b_,cb_⟩ wnabcde_ ⟨hH_,HQ_⟩;clear a HQ;have a:=hH_;have HQ:=QA HQ_;clear HQ_ hH_;refine nza_ ?_;refine one_ (i:=17) (N:=some 28) (bm 18 262143) rfl rfl qq_6 (by decide) (fun K hK=>?_);refine Qfy Tryz.func117 qq_6 rfl #[.pointer (some ⟨gB,0,none⟩),.slice (some ⟨b_,0,none⟩) sv.size cb_] (by rfl) rfl rfl qq_11 ?_;with_reducible refine(Q9.goRaw cb_ HQ.out HQ.out.row10 HZV.out qq_22).mono ?_
 rintro ee wt_ ⟨rfl,hI_,hB_,hO_⟩;refine⟨_,rfl,?_⟩;refine hK.out _ _ ⟨(Qob hB_.1 HP.out a.1),(Qob hB_.1 HP.out a.2)⟩ (fun a=>?_);clear hK K;refine nzp_ 28 ?_;refine Qfs qq_6 ?_;have hBW:Below w1.heap.size w1 wt_:=HBA.out.trans (HGB.out ▸ (HQ.out.2.1.trans hB_).1);have HBW:=QA (g.out.trans (Qip hBW g.out.size));have IX:=QA hI_;have HYL:=QA (show(([]:List Int)++leb k 4++leb v 4++bytesOf sk++bytesOf sv).length≤2000000000 by simp[Qin,Qcy];have:=HSZ.out;omega);obtain⟨ys,hys⟩:∃ys,ys=(([]:List Int)++leb k 4++leb v 4++bytesOf sk++bytesOf sv):=⟨_,rfl⟩;rw[← hys]at IX HYL;have HYS:=QA (show ys=Qsr sk sv by rw[hys,HKV.out.1,HKV.out.2];simp[Qsr]);have hgs:gB≤wt_.heap.size:=Nat.le_of_lt hI_.lt;have HGS:=QA hgs;have hwg:w.heap.size≤gB:=by have:=HP.out;have:=HPW.out;omega
 have HWG:=QA hwg;obtain⟨x,hx⟩:∃x,x=Qmc 0 ys:=⟨_,rfl⟩;have HXX:=QA hx;have HXR:=QA (show 0≤x∧x<4294967296 by rw[hx];exact Qsv 0 ys);have HTS:=QA (show Qci.f 0 ys=some x by unfold Qci.f;rw[if_pos (by have:=HYL.out;omega),hx]);clear hBW hI_ hB_ hO_ HQ a hys hgs hwg hx
 go_wp2_with (first
  |(go_at_call 118;have gate:=IX4.out;clear gate;refine(Qja gB gB (ys++leb x 4) _ IX4.out (by rw[List.length_append,Qin];have:=HYL.out;omega)).mono ?_;rintro ee w5 ⟨vo,rfl,hRo,hb5⟩;have HRO:=QA hRo;have l:=QA (b.out.trans (Qip hb5 b.out.size));have HS5:=QA b.out.size;clear hRo hb5)
  |(go_at_call 142;have gate:=IX3.out;clear gate;refine(Qiv gB gB x ys _ HXR.out.1 HXR.out.2 (Nat.le_refl _) (Nat.le_of_lt IX3.out.lt) IX3.out (by have:=HYL.out;omega)).mono ?_;rintro ee w4 ⟨rfl,hI4,hB4⟩;have IX4:=QA hI4;have b:=QA (m.out.trans (Qip hB4.1 HWG.out));clear hI4 hB4)
  |(go_at_call 176;have gate:=c.out;clear gate;refine(Qci.calls 0 A2 c2 ys x _ (Kd.R_reads' c.out).2.2 (Kd.R_reads' c.out).2.1 HTS.out).mono ?_;rintro ee w3 ⟨rfl,hb3⟩;have IX3:=QA (IX2.out.kept hb3);have m:=QA (h.out.trans (Qip hb3 h.out.size));clear hb3)
  |(go_at_call 118;refine(Qja gB gB ys _ IX.out (by have:=HYL.out;omega)).mono ?_;rintro ee w2 ⟨v2,rfl,hR2,hb2⟩;obtain⟨A2,c2,hv2⟩:=Kd.R_slice hR2;subst hv2;have c:=QA hR2;have IX2:=QA (IX.out.kept hb2);have h:=QA (HBW.out.trans (Qip hb2 HBW.out.size));clear hR2 hb2))
 refine bodyPost_ret (results_tmp2 rfl _ _ _) rfl ?_;refine⟨vo,rfl,?_,l.out⟩;have e:Qss sk sv=ys++leb x 4:=by unfold Qss;rw[HXX.out,HYS.out]
 rw[e];exact HRO.out.low HS5.out
def Qsy:List Int→List Pr→List Int × Int
 | acc,[]=>(acc,0)
 | acc,p :: l=>if chkE p.f0 p.f1=0 then Qsy (acc++Qss p.f0 p.f1) l else([],chkE p.f0 p.f1)
def Qap.f(l0:List Pr):Option (List Int × Int):=if l0.all (fun p=>decide (p.f0.size≤1000000000∧p.f1.size≤1000000000))=true∧l0.length≤1000000 then some (Qsy [] l0)else none
theorem Qsz{k v:ByteArray}(h:chkE k v=0):(Qss k v).length≤2000000:=by
 obtain⟨h1,h2⟩:=Qsu h;unfold Qss;rw[List.length_append,Qin,Qsw];omega
theorem Qap.calls(A0:Option Addr)(c0:Nat)(l0:List Pr)(r1:List Int)(r2:Int)(w:World)(hr0:Kd.C k132 w A0 l0.length l0)(hc0:l0.length≤c0)(h:Qap.f l0=some (r1,r2)) :
  Calls Tryz.prog 62 #[.slice A0 l0.length c0] w fun e w'=>∃d:Value,e=.returned (.tuple #[d,.int .i64 r2])∧Kd.R (Kd.int .u8) 5 w' w.heap.size (fun _=>True) d r1∧Below w.heap.size w w':=by
 have hu:=Tryz.underlying132;unfold Qap.f at h
 by_cases hg:l0.all (fun p=>decide (p.f0.size≤1000000000∧p.f1.size≤1000000000))=true∧l0.length≤1000000
 ·rw [if_pos hg]at h;obtain⟨hall,hl⟩:=hg;have HALL:=QA (fun p (hp:p∈l0)=>of_decide_eq_true (List.all_eq_true.1 hall p hp));have HH:=QA (Option.some.inj h);have HR:=QA hr0;have hba:Below w.heap.size w (w.alloc (.cells #[.slice none 0 0] 207)):=Qcn (Below.refl _ _) _;have HI0:=QA (IsBuf.new w w.heap.size);have g:=QA hba;clear h hall hr0 hba
  go_enter Tryz.func62,Tryz.ntmps62
  go_wp2
  go_loopw [11] (fun b wr=>∃(j:Nat) (jv:Int) (acc:List Int),b=.int .i64 jv∧j≤l0.length∧Aside0 (jv=(j:Int))∧Aside0 (Qsy acc (l0.drop j)=(r1,r2))∧Aside0 (acc.length≤2000000*j)∧Aside0 (IsBuf wr w.heap.size w.heap.size acc)∧Aside0 (Below w.heap.size w wr))
   (fun b _=>l0.length-(intOf b).toNat)
  case atStart=>exact⟨0,0,[],rfl,Nat.zero_le _,⟨rfl⟩,⟨by rw[List.drop_zero];exact HH.out⟩,⟨by simp⟩,HI0,g⟩
  case round =>
   clear HI0 g HH;obtain⟨j,jv,acc,rfl,hj,HJ,HA,HL,HI,HB⟩:=hrel
   by_cases hlt:j<l0.length
   ·have hge:0≤jv:=by have:=HJ.out;omega
    have hlt2:jv<(l0.length:Int):=by have:=HJ.out;omega
    have hwi:IntKind.i64.wrap (jv+1)=jv+1:=IntWalk.i64_in _ (by omega);obtain⟨ad,hA,k,l⟩:=Qim (Kd.C_below HR.out HB.out) jv hge hlt2;subst hA;obtain⟨q,hq⟩:∃q,q=Qil l0 jv:=⟨_,rfl⟩;rw[← hq]at k l;have hql:q=l0[j]:=by rw[hq,HJ.out];simp[Qil,List.getElem?_eq_getElem hlt]
    have hqa:=HALL.out q (by rw[hql];exact List.getElem_mem hlt);have hdrop:l0.drop j=q :: l0.drop (j+1):=by rw[hql,List.drop_eq_getElem_cons hlt]
    have ha:=HA.out;rw[hdrop,Qsy]at ha;have kn:=Qdz wr (.cells #[.string q.f0,.string q.f1] 132);obtain⟨n0,n1,_,_⟩:=Qnz kn;have HW1:=QA (HB.out.trans (Qip (Qcn (Below.refl _ _) (.cells #[.string q.f0,.string q.f1] 132)) HB.out.size));have HI1:=QA (HI.out.kept (Qcn (Below.refl _ _) (.cells #[.string q.f0,.string q.f1] 132)));have HQA:=QA hqa;clear hq hql hdrop kn hqa
    by_cases hck:chkE q.f0 q.f1=0
    ·rw[if_pos hck]at ha;have HA2:=QA ha;have HPL:=QA (Qsz hck);have HP:=QA (fun W=>pute_of q.f0 q.f1 W hck);clear ha hck
     go_wp2_with (first
      |(go_at_call 117;refine(Qiy w.heap.size w.heap.size A2 c2 (Qss q.f0 q.f1) acc _ (Kd.R_reads' c.out).2.2 (Nat.le_refl _) a.out.size HI2.out (by have:=HL.out;have:=HPL.out;omega)).mono ?_;rintro ee w3 ⟨rfl,hI3,hB3⟩;have HI3:=QA hI3;have m:=QA (a.out.trans hB3.1);clear hI3 hB3)
      |(go_at_call 116;refine(HP.out _).mono ?_;rintro ee w2 ⟨v2,rfl,hR2,hb2⟩;obtain⟨A2,c2,hv2⟩:=Kd.R_slice hR2;subst hv2;have c:=QA hR2;have HI2:=QA (HI1.out.kept hb2);have a:=QA (HW1.out.trans (Qip hb2 HW1.out.size));clear hR2 hb2))
     go_roundw
     case rel=>exact⟨j+1,jv+1,acc++Qss q.f0 q.f1,rfl,hlt,⟨by have:=HJ.out;omega⟩,HA2,⟨by rw[List.length_append];have:=HL.out;have:=HPL.out;omega⟩,HI3,m⟩
     case measure=>have:=HJ.out;simp[intOf];omega
    ·rw[if_neg hck]at ha;have n:(chkE q.f0 q.f1 != 0)=true:=bne_iff_ne.2 hck;obtain⟨ce,hce⟩:∃ce,ce=chkE q.f0 q.f1:=⟨_,rfl⟩;rw[← hce]at ha n hck;have HA2:=QA ha;have HP:=QA (fun W=>Qsx q.f0 q.f1 W ce (by have:=HQA.out;omega) (by have:=HQA.out;omega) hce.symm hck);clear ha hck hce
     go_wp2_with (go_at_call 116;refine(HP.out _).mono ?_;rintro ee w2 ⟨v2,rfl,hR2,hb2⟩;have a:=QA (HW1.out.trans (Qip hb2 HW1.out.size));clear hR2 hb2)
     refine bodyPost_ret (results_tmp2 rfl _ _ _) rfl ?_;have he:=HA2.out;simp only[Prod.mk.injEq]at he;obtain⟨rfl,rfl⟩:=he;exact⟨_,rfl,Kd.R_nil _ _ _ _ _,a.out⟩
   ·obtain rfl:j=l0.length:=by omega
    have e1:jv=(l0.length:Int):=HJ.out;subst e1;have ha:=HA.out;rw[List.drop_of_length_le (Nat.le_refl _),Qsy]at ha;simp only[Prod.mk.injEq]at ha;have HAA:=QA ha;clear ha
    go_wp2_with (go_at_call 118;refine(Qja w.heap.size w.heap.size acc _ HI.out (by have:=HL.out;omega)).mono ?_;rintro ee w2 ⟨v2,rfl,hR2,hb2⟩;have c:=QA hR2;have a:=QA (HB.out.trans (Qip hb2 HB.out.size));clear hR2 hb2)
    refine bodyPost_ret (results_tmp2 rfl _ _ _) rfl ?_;rw[← HAA.out.1,← HAA.out.2];exact⟨_,rfl,c.out.low HB.out.size,a.out⟩
 ·rw[if_neg hg]at h
  cases h
end Go.Proofs.YtepkfjmjidjedaaGreat.C
end
