/- Merged texts. -/
import Derived.Test.YtnnofopfbeklbaaGreatMK02
import Derived.WalkLawsBesides
import Derived.Recover
import Derived.Defers
import Derived.Test.YtnnofopfbeklbaaGreatMK15
import Derived.Test.YtnnofopfbeklbaaGreatMK08
import Derived.Test.YtnnofopfbeklbaaGreatMK09
import Derived.Test.YtnnofopfbeklbaaGreatMK18
import Derived.Test.YtnnofopfbeklbaaGreatMK10
import Derived.Test.YtnnofopfbeklbaaGreatMK16
import Derived.Test.YtnnofopfbeklbaaGreatMK17
import Derived.Test.YtnnofopfbeklbaaGreatMK04
import Derived.Test.YtnnofopfbeklbaaGreatMK11
import Derived.Test.YtnnofopfbeklbaaGreatMK03
set_option linter.unusedVariables false
set_option linter.unusedSimpArgs false
set_option maxHeartbeats 8000000
set_option maxRecDepth 100000
section
namespace Go.Proofs.YtnnofopfbeklbaaGreat.C
open Go.RowKit Go.Proofs.YtnnofopfbeklbaaGreatW.PrintWords Go.Proofs.YtnnofopfbeklbaaGreatW.PrintLast Go.Proofs.YtnnofopfbeklbaaGreatW.PrintMore
abbrev Pr:=S207
def oneL (bs:List Int) (i:Nat):Except (Int × Int) (Pr × Nat) :=
 if bs.length<i+8 then .error (2,(i:Int))else
  let k:=CodecP.leI ((bs.drop i).take 4);let v:=CodecP.leI ((bs.drop (i+4)).take 4)
  if k=0 then .error (4,((i+8:Nat):Int))else if 4096<k∨1048576<v then .error (3,((i+8:Nat):Int))else
   if(bs.length:Int)<((i+8:Nat):Int)+k+v+4 then .error (2,((i+8:Nat):Int))else
    if Qqm 0 (leb k 4++leb v 4++bytesOf (strOfNums ((bs.drop (i+8)).take k.toNat))++bytesOf (strOfNums ((bs.drop (i+8+k.toNat)).take v.toNat)))=CodecP.leI ((bs.drop (i+8+k.toNat+v.toNat)).take 4)then
     .ok (⟨strOfNums ((bs.drop (i+8)).take k.toNat),strOfNums ((bs.drop (i+8+k.toNat)).take v.toNat)⟩,i+8+k.toNat+v.toNat+4)
    else .error (5,((i+8+k.toNat+v.toNat+4:Nat):Int))
def allL(bs:List Int):Nat→Nat→List Pr→List Pr × Int × Int
 | 0,i,acc=>(acc,(i:Int),0)
 | f+1,i,acc=>if i<bs.length then(match oneL bs i with
   | .ok (p,j)=>allL bs f j (acc++[p])
   | .error (er,_)=>(acc,(i:Int),er))else(acc,(i:Int),0)
theorem Qsn(k v:Int):Qao.f k v=some (if k=0 then 4 else if 4096<k then 3 else if 1048576<v then 3 else 0):=by
 unfold Qao.f
 repeat' split
 all_goals first|rfl|omega
theorem Qso(lo g:Nat)(bs:List Int)(i:Nat)(hb:CodecP.Bytes bs)(hl:bs.length≤100000000)(hi:i≤bs.length)(hlg:lo≤g)(w:World)(hbw:lo≤w.heap.size)(hI:IsCur w lo g bs (i:Int)) :
  Calls Tryz.prog 140 #[.pointer (some ⟨g,0,none⟩)] w fun e w'=>Bw lo g w w'∧(match oneL bs i with
   | .ok (p,j)=>e=.returned (.agg #[.string p.f0,.string p.f1])∧IsCur w' lo g bs (j:Int)∧i<j∧j≤bs.length
   | .error (er,_)=>er≠0∧e=.panicked [Qpl g er]∧∃j:Int,IsCur w' lo g bs j):=by
 unfold oneL
 by_cases h8:bs.length<i+8
 ·rw[if_pos h8];refine(Qsg lo g bs i hl hi hlg w hbw hI h8).mono ?_;rintro e w' ⟨rfl,h1,h2⟩;exact⟨h2,by decide,rfl,_,h1⟩
 ·rw [if_neg h8];obtain⟨k,hk⟩:∃k,k=CodecP.leI ((bs.drop i).take 4):=⟨_,rfl⟩;obtain⟨v,hv⟩:∃v,v=CodecP.leI ((bs.drop (i+4)).take 4):=⟨_,rfl⟩;have hkr:=(CodecP.leI_range ((hb.drop i).take 4)).1;have hvr:=(CodecP.leI_range ((hb.drop (i+4)).take 4)).1;rw[← hk]at hkr;rw[← hv]at hvr;dsimp only;rw[← hk,← hv];have hL:=Qsn k v
  by_cases h0:k=0
  ·rw[if_pos h0]at hL ⊢;refine(Qsh lo g bs i hb hl hlg w hbw hI (by omega) k v 4 hk hv hL (by decide)).mono ?_;rintro e w' ⟨rfl,h1,h2⟩;exact⟨h2,by decide,rfl,_,h1⟩
  ·rw [if_neg h0]at hL ⊢
   by_cases hbig:4096<k∨1048576<v
   ·rw[if_pos hbig];refine(Qsh lo g bs i hb hl hlg w hbw hI (by omega) k v 3 hk hv (by rw[hL];(repeat' split)<;>first|rfl|omega) (by decide)).mono ?_;rintro e w' ⟨rfl,h1,h2⟩;exact⟨h2,by decide,rfl,_,h1⟩
   ·rw[if_neg hbig];rw[if_neg (by omega),if_neg (by omega)]at hL
    by_cases hsh:(bs.length:Int)<((i+8:Nat):Int)+k+v+4
    ·rw[if_pos hsh];refine(Qsi lo g bs i hb hl hlg w hbw hI (by omega) k v hk hv hL (by omega)).mono ?_;rintro e w' ⟨rfl,h1,h2⟩;exact⟨h2,by decide,rfl,_,h1⟩
    ·rw[if_neg hsh];have t1:((i:Int)+4+4).toNat=i+8:=by omega
     have t2:((i:Int)+4+4+k).toNat=i+8+k.toNat:=by omega
     have t3:((i:Int)+4+4+k+v).toNat=i+8+k.toNat+v.toNat:=by omega
     have hm:=Qsm lo g bs i hb hl hlg w hbw hI (by omega) k v hk hv hL (by omega) (CodecP.leI ((bs.drop (i+8+k.toNat+v.toNat)).take 4)) (by rw[t3]) ((bs.drop (i+8)).take k.toNat) ((bs.drop (i+8+k.toNat)).take v.toNat) (by rw[t1]) (by rw[t2]);refine hm.mono ?_;rintro e w' ⟨⟨h1,h2⟩,⟨h3,rfl⟩ |⟨h3,rfl⟩⟩
     ·rw[if_pos h3];refine⟨h2,rfl,?_,by omega,by omega⟩;rw[show((i+8+k.toNat+v.toNat+4:Nat):Int)=(i:Int)+4+4+k+v+4 by omega];exact h1
     ·rw[if_neg h3];exact⟨h2,by decide,rfl,_,h1⟩
def Qan.f(l0:List Int):Option (List Pr × Int × Int):=if l0.all (fun x=>decide (0≤x∧x<256))=true∧l0.length≤100000000 then some (allL l0 (l0.length+1) 0 [])else none
theorem bytes_all{l:List Int}:l.all (fun x=>decide (0≤x∧x<256))=true↔CodecP.Bytes l:=by
 rw[List.all_eq_true];exact⟨fun h x hx=>by simpa using h x hx,fun h x hx=>by simpa using h x hx⟩
def RP(W:World)(b:Nat)(v:Value)(xs:List Pr):Prop:=(k207).R 207 W b (fun _=>True) v xs
theorem RP.cur{W W':World}{b g b':Nat}{v:Value}{xs:List Pr}{bs:List Int}{i:Int}(h:RP W b' v xs)(hI:IsCur W b g bs i)(hT:Bw b g W W'):RP W' b' v xs:=by
 obtain⟨u,hu,_⟩:=hI;refine Kd.R_mono (Kd.R_step (Kd.R_bound h) (fun k hk _=>?_)) (fun _ _=>trivial);obtain⟨q,hq,cells,hc⟩:=hk.2.2.2;have ht:∀q,q∈207 :: (k207).E→q=207:=by decide
 obtain rfl:=ht q hq;rw[hc];exact hT.2 k cells _ hc (by decide) (Qes hc hu (by decide))
theorem RP.ty{W W':World}{b':Nat}{v:Value}{xs:List Pr}(h:RP W b' v xs)(hT:Ty W W'):RP W' b' v xs:=by
 refine Kd.R_mono (Kd.R_step (Kd.R_bound h) (fun k hk _=>?_)) (fun _ _=>trivial);obtain⟨q,hq,cells,hc⟩:=hk.2.2.2;have ht:∀q,q∈207 :: (k207).E→q=207:=by decide
 obtain rfl:=ht q hq;rw[hc];exact hT k cells _ hc (by decide) (by decide) (by decide)
structure GS (w W:World) (lo g lb:Nat) (bs:List Int) (i n:Int) (acc:List Pr) (v:Value):Prop where
  cur:IsCur W lo g bs i
  low:Below lb w W
  tl:Tl lo g w W
  l:W.heap[lb]? = some (.cells #[v] 149 (0,0))
  rows:RP W w.heap.size v acc
  n:W.heap[lb+1]? = some (.cells #[.int .i64 n] 3 (0,0))
  lt:lb+1<lo
  size:lo≤w.heap.size
section
variable {w W W':World} {lo g lb:Nat} {bs:List Int} {i j n:Int} {acc:List Pr} {v:Value}
theorem GS.grow(h:GS w W lo g lb bs i n acc v):w.heap.size≤W.heap.size:=h.low.size
theorem GS.go(h:GS w W lo g lb bs i n acc v)(hI:IsCur W' lo g bs j)(hB:Bw lo g W W'):GS w W' lo g lb bs j n acc v :=
 ⟨hI,h.low.trans (Qlf hB.1 (by have:=h.lt;omega)),fun k cs t h1 h2 h3 h4=>hB.2 _ _ _ (h.tl k cs t h1 h2 h3 h4) h3 h4,
  (hB.1.block lb (by have:=h.lt;omega)).trans h.l,h.rows.cur h.cur hB,(hB.1.block (lb+1) h.lt).trans h.n,h.lt,h.size⟩
theorem GS.below(h:GS w W lo g lb bs i n acc v)(hb:Below W.heap.size W W'):GS w W' lo g lb bs i n acc v :=
 h.go (h.cur.kept hb) (Bw.below hb (Nat.le_trans h.size h.grow))
theorem GS.app{w1:World}{v1:Value}{acc1:List Pr}(h:GS w W lo g lb bs i n acc v)(hR:RP w1 w.heap.size v1 acc1)(hb:Below w.heap.size W w1)(hg:W.grownBy w1 v.ownBlock)(hlg:lo≤g) :
  w1.heap[lb]? = some (.cells #[v] 149 (0,0))∧GS w (w1.setCell ⟨lb,0,none⟩ v1) lo g lb bs i n acc1 v1:=by
 have hlt:=h.lt;have hlb:w1.heap[lb]? = some (.cells #[v] 149 (0,0)):=(hb.block lb (by have:=h.size;omega)).trans h.l;have hn:=(hb.block (lb+1) (by have:=h.size;omega)).trans h.n;obtain⟨u,hu,hur⟩:=h.cur.grown h.rows ⟨by decide,by decide⟩ hg;refine⟨hlb,⟨u,Qen hu (p:=⟨lb,0,none⟩) (Qes hu hlb (by decide)) _,hur.set hlb (by decide) 0 _⟩,?_,?_,Qem hlb 0 _,Kd.R_set hR hlb (by decide) 0 _,Qen hn (p:=⟨lb,0,none⟩) (show lb+1≠lb by omega) _,hlt,h.size⟩
 ·exact Qle (h.low.trans (Qlf hb (by have:=h.size;omega))) (Nat.le_refl _)
 ·intro k cs t h1 h2 h3 h4;exact Qen ((hb.block k (Qeo h2)).trans (h.tl k cs t h1 h2 h3 h4)) (p:=⟨lb,0,none⟩) (show k≠lb by omega) _
theorem GS.num(h:GS w W lo g lb bs i n acc v)(hlg:lo≤g)(m:Int):GS w (W.setCell ⟨lb+1,0,none⟩ (.int .i64 m)) lo g lb bs i m acc v:=by
 have hlt:=h.lt;obtain⟨u,hu,hur⟩:=h.cur;refine⟨⟨u,Qen hu (p:=⟨lb+1,0,none⟩) (Qes hu h.n (by decide)) _,hur.set h.n (by decide) 0 _⟩,Qle h.low (Nat.le_succ _),?_,Qen h.l (p:=⟨lb+1,0,none⟩) (show lb≠lb+1 by omega) _,Kd.R_set h.rows h.n (by decide) 0 _,Qem h.n 0 _,hlt,h.size⟩;intro k cs t h1 h2 h3 h4;exact Qen (h.tl k cs t h1 h2 h3 h4) (p:=⟨lb+1,0,none⟩) (show k≠lb+1 by omega) _
end
def posOf(W:World)(g:Nat):Nat:=match W.cell? ⟨g,1,none⟩with
 | some (.int _ i)=>i.toNat
 | _=>0
theorem Qsp{W:World}{b g:Nat}{bs:List Int}{i:Nat}(h:IsCur W b g bs (i:Int)):posOf W g=i:=by
 obtain⟨A,c,h0,h1,_⟩:=h.cells;unfold posOf;rw[h1];exact Int.toNat_natCast i
theorem Qsq:(Tryz.prog.info? 207).map (fun i=>(i.zero,i.size,i.bytes))=some (some (.agg #[.string (⟨#[]⟩:ByteArray),.string (⟨#[]⟩:ByteArray)]),2,32):=by kernel_rfl
theorem goesP_{P:Program}{ops:Array Oper}{Q:Exit→Act→World→Prop}{oi:Oper}{N:Option Tmp}{a:Act}{w:World}{K:Act→World→Prop}{f:FuncId}{fn:Func}{as_:Array Operand}{ts:Array TypeId}(hf:P.funcs[f]? = some fn)(hname:(fn.name == "runtime.NumGoroutine")=false)(hb:fn.body.isSome=true)(args:Array Value)
  (hw:Region.wanted oi (yielded ops a.tmps)=true) (hop:oi.op=.call { callee:=.value (.func f),args:=as_,argTypes:=ts }) (hargs:as_.map a.eval=args)
  (h:Calls P f args w fun e w'=>∃ch,e=.panicked ch∧Q (.panic ch) a w'):if Region.wanted oi (yielded ops a.tmps)=true then Oper.wp P oi a w K Q else K (a.put N undef) w:=by
 have he:=Qhs hf hname hb args w;have hrun:(execOp a.eval oi).run P w=.ok (.enter f args) w:=by
  unfold execOp;simp[hop,resolve,Deferred.ofValue,invoke,Act.eval,hargs,he]
 rw[if_pos hw];unfold Oper.wp;rw[hrun,Oper.upon_enter];refine h.mono fun e w'' hh=>?_
 obtain⟨ch,rfl,hk⟩:=hh;exact hk
theorem Qsr(lo g lb:Nat)(bs:List Int)(hb:CodecP.Bytes bs)(hl:bs.length≤100000000)(hlg:lo≤g)(w:World)(hS:GS w w lo g lb bs 0 0 [] (.slice none 0 0)) :
  Calls Tryz.prog 138 #[.pointer (some ⟨g,0,none⟩),.pointer (some ⟨lb,0,none⟩),.pointer (some ⟨lb+1,0,none⟩)] w fun e w' =>
   ∃i v,GS w w' lo g lb bs i (allL bs (bs.length+1) 0 []).2.1 (allL bs (bs.length+1) 0 []).1 v ∧
    ((e=.returned (.tuple #[])∧(allL bs (bs.length+1) 0 []).2.2=0)∨(e=.panicked [Qpl g (allL bs (bs.length+1) 0 []).2.2]∧(allL bs (bs.length+1) 0 []).2.2≠0)):=by
 obtain⟨R,hR⟩:∃R,R=allL bs (bs.length+1) 0 []:=⟨_,rfl⟩;rw[← hR];have HR:=QA hR;have HS:=QA hS;have HB:=QA hb;have HL:=QA hl;have hl2:bs.length≤140737488355328:=by omega
 clear hR hS hb hl
 go_enter Tryz.func138,Tryz.ntmps138
 go_wp2_with fail
 go_loopw [13] (fun h wr=>∃(i f:Nat) (acc:List Pr) (v:Value),Aside0 (i≤bs.length∧bs.length<i+f∧acc.length≤i)∧Aside0 (R=allL bs f i acc)∧Aside0 (GS w wr lo g lb bs (i:Int) (i:Int) acc v))
  (fun _ wr=>bs.length-posOf wr g)
 case atStart=>exact⟨0,bs.length+1,[],_,⟨by simp⟩,HR,HS⟩
 case round =>
  obtain⟨i,f,acc,v,HI,HA,HG⟩:=hrel;clear HS;obtain⟨A,c,hv⟩:=Kd.R_slice HG.out.rows;subst hv
  by_cases hlt:i<bs.length
  ·have hgt:decide ((bs.length:Int)-(i:Int) > 0)=true:=decide_eq_true (by omega);have ha:=HA.out;obtain⟨f',hf'⟩:∃f',f=f'+1:=⟨f-1,by have:=HI.out;omega⟩;subst hf';unfold allL at ha;rw[if_pos hlt]at ha;have hcl:=HG.out.l;have hcn:=HG.out.n;have x0:wr.cell? ⟨lb,0,none⟩=some (.slice A acc.length c):=(Qep hcl 0).trans rfl
   cases h1:oneL bs i with
   | error q =>
    obtain⟨er,pl⟩:=q;rw[h1]at ha;dsimp only at ha;have HA2:=QA ha;have H1:=QA h1;clear ha h1 HA hcl hcn
    go_upto_region 1 with(go_at_call 139;refine(Qps lo g bs i (by have:=HI.out.1;omega) hl2 _ HG.out.cur).mono ?_;rintro ee w1 ⟨rfl,hb1⟩;have HG1:=QA ((HG.out.below hb1).below (Qds (Below.refl _ _)));have x1:w1.drew.cell? ⟨lb,0,none⟩=some (.slice A acc.length c):=(Qep HG1.out.l 0).trans rfl;clear hb1)
    refine Qhk (n:=6) (S:=fun w'=>w'.cell? ⟨lb,0,none⟩=some (.slice A acc.length c)) (ds:=[]) (bm 6 0) qq_6 rfl rfl x1 (fun b=>?_);refine pz_ (i:=1) (N:=some 8) (bm 6 2) qq_6 ?_;refine tz_ (i:=0) (N:=some 7) (bm 6 3) qq_6 b ?_;refine one_ (i:=2) (N:=some 9) (bm 6 7) rfl rfl qq_6 (by decide) (fun K hK=>?_);refine goesP_ Tryz.func140 qq_6 rfl #[.pointer (some ⟨g,0,none⟩)] (by rfl) rfl qq_11 ?_;refine(Qso lo g bs i HB.out HL.out HI.out.1 hlg _ (Nat.le_trans HG1.out.size HG1.out.grow) HG1.out.cur).mono ?_;rw[H1.out];rintro ee w2 ⟨hB2,hne,rfl,j,hI2⟩;have HG2:=QA (HG1.out.go hI2 hB2);refine⟨_,rfl,?_⟩;exact⟨rfl,(show ∃(i':Int) (v':Value),GS w w2 lo g lb bs i' R.2.1 R.1 v'∧((Ending.panicked [Qpl g er]=Ending.returned (.tuple #[])∧R.2.2=0)∨(Ending.panicked [Qpl g er]=Ending.panicked [Qpl g R.2.2]∧R.2.2≠0)) from⟨j,.slice A acc.length c,by rw[HA2.out];exact HG2.out,.inr ⟨by rw[HA2.out],by rw[HA2.out];exact hne⟩⟩)⟩
   | ok q =>
    obtain⟨p,j⟩:=q;rw[h1]at ha;dsimp only at ha;have HA2:=QA ha;have H1:=QA h1;clear ha h1 HA hcl hcn
    go_upto_region 1 with(go_at_call 139;refine(Qps lo g bs i (by have:=HI.out.1;omega) hl2 _ HG.out.cur).mono ?_;rintro ee w1 ⟨rfl,hb1⟩;have HG1:=QA ((HG.out.below hb1).below (Qds (Below.refl _ _)));have x1:w1.drew.cell? ⟨lb,0,none⟩=some (.slice A acc.length c):=(Qep HG1.out.l 0).trans rfl;clear hb1)
    go_region_law (first
     |(go_simp;go_at_call 140;refine(Qso lo g bs i HB.out HL.out HI.out.1 hlg _ (Nat.le_trans HG1.out.size HG1.out.grow) HG1.out.cur).mono ?_;rw[H1.out];rintro ee w2 ⟨hB2,rfl,hI2,hij,hjl⟩;have HG2:=QA (HG1.out.go hI2 hB2);have HJ2:=QA (And.intro hij hjl);have x2:w2.cell? ⟨lb,0,none⟩=some (.slice A acc.length c):=(Qep HG2.out.l 0).trans rfl;have x5:(w2.alloc (.cells #[.string p.f0,.string p.f1] 207)).cell? ⟨lb,0,none⟩=some (.slice A acc.length c):=Qdv (Qdr (Below.refl w2.heap.size _) _) x2;clear hB2 hI2 hij hjl)
     |(refine Kd.R_append_step k207 (w0:=w2) w.heap.size (by rfl) (.tmp 7) (.tmp 10) 149 207 (.agg #[.string (⟨#[]⟩:ByteArray),.string (⟨#[]⟩:ByteArray)]) 32 rfl Tryz.underlying149 Qsq rfl (by decide) (by omega) (.slice A acc.length c) acc p [.string p.f0,.string p.f1] (fun _=>True) (fun _=>False) rfl ?ax ?aP (fun _ hk=>hk.elim) (fun _ _=>trivial) ?aO (Below.refl _ _) ?aS ?aL ?_;(case ax=>rfl);(case aP=>exact Qky _ _ _ p);(case aO=>exact HG2.out.rows);(case aS=>exact HG2.out.grow);(case aL=>have:=HI.out;have:=HL.out;omega);intro v3 w3 a hb3 d hat3;obtain⟨A3,c3,hv3⟩:=Kd.R_slice a;subst hv3;have HP3:=HG2.out.app a hb3 d hlg;rw[show(acc++[p]).length=acc.length+1 from List.length_append]at HP3;have x3:w3.frozen? ⟨lb,0,none⟩=false:=Qeq HP3.1 0;have x4:w3.cell? ⟨lb,0,none⟩=some (.slice A acc.length c):=(Qep HP3.1 0).trans rfl;have HG3:=QA HP3.2;clear a hb3 d hat3 HP3))
    all_goals
     obtain⟨W4,hW4⟩:∃W4,W4=w3.setCell ⟨lb,0,none⟩ (.slice A3 (acc.length+1) c3):=⟨_,rfl⟩;rw[← hW4]at HG3;show Exit.then _ _ Exit.normal _ (w3.setCell ⟨lb,0,none⟩ (.slice A3 (acc.length+1) c3));rw[← hW4];clear hW4 x2 x3 x4 x5
     go_wp2_with (go_at_call 141;refine(cur_At lo g bs (j:Int) _ HG3.out.cur).mono ?_;rintro ee w5 ⟨rfl,hb5⟩;have HG5:=QA (HG3.out.below hb5);have y1:w5.cell? ⟨lb+1,0,none⟩=some (.int .i64 (i:Int)):=(Qep HG5.out.n 0).trans rfl;have y2:w5.frozen? ⟨lb+1,0,none⟩=false:=Qeq HG5.out.n 0;clear hb5)
     go_roundw
     case rel=>exact⟨j,f',acc++[p],_,⟨by have:=HJ2.out;have:=HI.out;rw[List.length_append];simp only[List.length_singleton];omega⟩,HA2,⟨HG5.out.num hlg _⟩⟩
     case measure =>
      rw[Qsp (HG5.out.num hlg (j:Int)).cur,Qsp HG.out.cur];have:=HJ2.out;omega
  ·have hgt:decide ((bs.length:Int)-(i:Int) > 0)=false:=decide_eq_false (by omega);have ha:=HA.out;obtain⟨f',hf'⟩:∃f',f=f'+1:=⟨f-1,by have:=HI.out;omega⟩;subst hf';unfold allL at ha;rw[if_neg hlt]at ha;have HA2:=QA ha;clear ha HA
   go_wp2_with (go_at_call 139;refine(Qps lo g bs i (by have:=HI.out.1;omega) hl2 _ HG.out.cur).mono ?_;rintro ee w1 ⟨rfl,hb1⟩;have HG1:=QA (HG.out.below hb1);clear hb1)
   go_end0
   rw[HA2.out];exact⟨_,_,HG1.out,.inl ⟨rfl,rfl⟩⟩
theorem Qss(as_:Array Value)(W:World):(callFunc 138 as_).run Tryz.prog W=.ok (.enter 138 as_) W:=by
 simp[callFunc,Tryz.func138,Tryz.f138]
def Qst(l0:List Int)(lb:Nat)(w:World)(er:Int)(w':World):Prop :=
 Below lb w w'∧er=(allL l0 (l0.length+1) 0 []).2.2∧∃v,w'.heap[lb]? = some (.cells #[v] 149 (0,0))∧RP w' lb v (allL l0 (l0.length+1) 0 []).1∧w'.heap[lb+1]? = some (.cells #[.int .i64 (allL l0 (l0.length+1) 0 []).2.1] 3 (0,0))
theorem Qsu(A0:Option Addr)(c0:Nat)(l0:List Int)(lb:Nat)(w:World)(hb:CodecP.Bytes l0)(hl:l0.length≤100000000)(hr0:Kd.C (Kd.int .u8) w A0 l0.length l0)
  (hkl:w.heap[lb]? = some (.cells #[.slice none 0 0] 149 (0,0))) (hkn:w.heap[lb+1]? = some (.cells #[.int .i64 0] 3 (0,0))) :
  Calls Tryz.prog 137 #[.slice A0 l0.length c0,.func (.func 138) #[] #[.pointer (some ⟨lb,0,none⟩),.pointer (some ⟨lb+1,0,none⟩)]] w fun e w'=>∃er i,e=.returned (.tuple #[.int .i64 i,.int .i64 er])∧Qst l0 lb w er w':=by
 have hlt:=Qeo hkn;refine Qpz 138 #[.pointer (some ⟨lb,0,none⟩),.pointer (some ⟨lb+1,0,none⟩)] A0 c0 l0 w hr0 (by omega) Qss (fun er _ W'=>Qst l0 lb w er W') ?_ ?_
 ·rintro er i W W' ⟨h1,h2,v,h3,h4,h5⟩ hB hT;exact⟨h1.trans (Qlf hB (by omega)),h2,v,(hB.block lb (by omega)).trans h3,h4.ty hT,(hB.block (lb+1) hlt).trans h5⟩
 ·intro W g hg hB hI;have hS:GS W W w.heap.size g lb l0 0 0 [] (.slice none 0 0):=⟨hI,Below.refl _ _,fun k cs t _ h _ _=>h,(hB.block lb (by omega)).trans hkl,Kd.R_nil _ _ _ _ _,(hB.block (lb+1) hlt).trans hkn,hlt,hB.size⟩;refine(Qsr w.heap.size g lb l0 hb hl hg W hS).mono ?_;rintro e W' ⟨i,v,hG,h⟩;have hP:Qst l0 lb w (allL l0 (l0.length+1) 0 []).2.2 W':=⟨(Qlf hB (by omega)).trans hG.low,rfl,v,hG.l,Kd.R_lower hG.rows (by have:=hB.size;omega),hG.n⟩;refine⟨i,hG.cur,hG.tl,?_⟩
  rcases h with⟨h1,h2⟩ |⟨h1,h2⟩
  ·rw[h2]at hP;exact .inl ⟨h1,hP⟩
  ·exact .inr ⟨_,h1,hP⟩
theorem Qsv(tmps:Array Value)(W:World)(lb:Nat)(v:Value)(n er:Int)(h2:tmps[2]? = some (.pointer (some ⟨lb,0,none⟩)))(h3:tmps[3]? = some (.pointer (some ⟨lb+1,0,none⟩)))(h4:tmps[4]? = some (.int .i64 er))
  (c2:W.heap[lb]? = some (.cells #[v] 149 (0,0))) (c3:W.heap[lb+1]? = some (.cells #[.int .i64 n] 3 (0,0))) :
  (results Tryz.f86 tmps).run Tryz.prog W=.ok (.tuple #[v,.int .i64 n,.int .i64 er]) W:=by
 have hr:Tryz.f86.results=#[.cell 2 149,.cell 3 3,.tmp 4]:=rfl;have d2:W.cell? ⟨lb,0,none⟩=some v:=(Qep c2 0).trans rfl;have d3:W.cell? ⟨lb+1,0,none⟩=some (.int .i64 n):=(Qep c3 0).trans rfl;simp[results,hr,h2,h3,h4,go_sem,loadVar,d2,d3,c2,c3]
theorem Qan.calls(A0:Option Addr)(c0:Nat)(l0:List Int)(r1:List Pr)(r2 r3:Int)(w:World)(hr0:Kd.C (Kd.int .u8) w A0 l0.length l0)(hc0:l0.length≤c0)(h:Qan.f l0=some (r1,r2,r3)) :
  Calls Tryz.prog 86 #[.slice A0 l0.length c0] w fun e w'=>∃a:Value,e=.returned (.tuple #[a,.int .i64 r2,.int .i64 r3])∧Kd.R k207 207 w' w.heap.size (fun _=>True) a r1∧Below w.heap.size w w':=by
 unfold Qan.f at h
 by_cases hg:l0.all (fun x=>decide (0≤x∧x<256))=true∧l0.length≤100000000
 ·rw[if_pos hg,Option.some.injEq]at h;obtain⟨z0,hz0⟩:∃z:Obj,z=.cells #[.slice none 0 0] 149 (0,0):=⟨_,rfl⟩;obtain⟨z1,hz1⟩:∃z:Obj,z=.cells #[.int .i64 0] 3 (0,0):=⟨_,rfl⟩;have b0:Below w.heap.size w ((w.alloc z0).alloc z1):=Qdr (Qdr (Below.refl _ _) _) _;have k0:=Qfb (Qff w z0) z1;have k1:=Qff (w.alloc z0) z1;rw[World.size_alloc]at k1;subst hz0 hz1;have hC:=Qsu A0 c0 l0 w.heap.size _ (bytes_all.1 hg.1) hg.2 (Kd.C_below hr0 b0) k0 k1;unfold Qst at hC;rw[h]at hC;have RUN:=QA hC;have B0:=QA b0;have hmf:∀(fn:Fn) (first cap:Array Value) (w:World),(Instr.makeFunc fn first cap).run Tryz.prog w=.ok (.func fn first cap) w:=fun _ _ _ _=>rfl
  clear hg hr0 b0 k0 k1 hC h
  go_enter Tryz.func86,Tryz.ntmps86
  go_upto_region 2 with(go_at_call 137;refine RUN.out.mono ?_;rintro ee w3 ⟨er,i,rfl,hb3,rfl,v,hk0,hR,hk1⟩)
  have b:=QA (B0.out.trans hb3);have c:=QA hR;have HK0:=QA hk0;have HK1:=QA hk1;have m0:=Qem (w:=w3.drew) hk0 0 v;have m1:=Qen (w:=w3.drew) hk1 (p:=⟨w.heap.size,0,none⟩) (show w.heap.size+1≠w.heap.size by omega) v;have n0:=Qen m0 (p:=⟨w.heap.size+1,0,none⟩) (show w.heap.size≠w.heap.size+1 by omega) (.int .i64 r2);have n1:=Qem m1 0 (.int .i64 r2);have x0:w3.drew.cell? ⟨w.heap.size,0,none⟩=some v:=(Qep hk0 0).trans rfl;have x1:w3.drew.cell? ⟨w.heap.size+1,0,none⟩=some (.int .i64 r2):=(Qep hk1 0).trans rfl;have x2:w3.drew.frozen? ⟨w.heap.size,0,none⟩=false:=Qeq (w:=w3.drew) hk0 0;have x3:(w3.drew.setCell ⟨w.heap.size,0,none⟩ v).cell? ⟨w.heap.size+1,0,none⟩=some (.int .i64 r2):=(Qep m1 0).trans rfl;have x4:(w3.drew.setCell ⟨w.heap.size,0,none⟩ v).frozen? ⟨w.heap.size+1,0,none⟩=false:=Qeq m1 0;have x5:w3.cell? ⟨w.heap.size,0,none⟩=some v:=x0;have x6:w3.cell? ⟨w.heap.size+1,0,none⟩=some (.int .i64 r2):=x1;have x7:w3.frozen? ⟨w.heap.size,0,none⟩=false:=x2;have x8:w3.frozen? ⟨w.heap.size+1,0,none⟩=false:=Qeq hk1 0;obtain⟨A3,c3,hv3⟩:=Kd.R_slice hR;subst hv3;have HN0:=QA n0;have HN1:=QA n1;clear hk0 hk1 hR m0 m1 n0 n1
  go_region
  all_goals
   go_wp2;refine bodyPost_ret (Qsv _ _ w.heap.size _ r2 _ rfl rfl rfl HN0.out HN1.out) rfl ?_;refine⟨_,rfl,?_,Qle (Qle (b.out.trans (Qlf (Qds (Below.refl _ _)) b.out.size)) (Nat.le_refl _)) (Nat.le_succ _)⟩;exact Kd.R_set (Kd.R_set (w:=w3.drew) c.out HK0.out (by decide) 0 _) (Qen (w:=w3.drew) HK1.out (p:=⟨w.heap.size,0,none⟩) (show w.heap.size+1≠w.heap.size by omega) _) (by decide) 0 _
 ·rw[if_neg hg]at h;cases h
section
variable {w W W':World} {rb lo g:Nat} {bs:List Int} {i j q:Int} {d:Bool} {a b:ByteArray}
end
end Go.Proofs.YtnnofopfbeklbaaGreat.C
end
section
namespace Go.Proofs.YtnnofopfbeklbaaGreat.C
open Go.RowKit Go.Proofs.YtnnofopfbeklbaaGreatW.PrintWords Go.Proofs.YtnnofopfbeklbaaGreatW.PrintLast Go.Proofs.YtnnofopfbeklbaaGreatW.PrintMore
open Go.Sort
attribute [local go_sem high] eqA117
def encE(x:Ent):List Value:=[.int .u64 x.f0,.int .u32 x.f1]
def Qsw(l:List Ent):List Value:=l.flatMap encE
abbrev RE(W:World)(b:Nat)(v:Value)(l:List Ent):Prop:=Kd.R k117 117 W b (fun _=>True) v l
theorem Qsx(l:List Ent):(Qsw l).length=l.length*2:=by
 induction l with
 | nil=>rfl
 | cons a l ih=>simp only[Qsw,List.flatMap_cons,List.length_append,encE,List.length_cons,List.length_nil]at ih ⊢;omega
theorem Qsy:∀(l:List Ent) (j:Nat) (h:j<l.length),((Qsw l).drop (j*2)).take 2=encE l[j]
 | a :: l,0,_=>rfl
 | a :: l,j+1,h=>by
  have:=Qsy l j (by simpa using h);rw[show(j+1)*2=j*2+2 by omega];exact this
theorem Qsz(l:List Ent)(j:Nat):(Qsw l)[2*j]? = l[j]?.map (fun x=>Value.int .u64 x.f0)∧(Qsw l)[2*j+1]? = l[j]?.map (fun x=>Value.int .u32 x.f1):=by
 induction l generalizing j with
 | nil=>simp[Qsw]
 | cons a l ih =>
  cases j with
  | zero=>simp[Qsw,encE]
  | succ j =>
   have:=ih j;rw[show 2*(j+1)=2*j+2 by omega];exact this
theorem repsE{R:Ent→List Value→Prop}(hR:∀x,R x (encE x))(l:List Ent):Reps R 2 l (Qsw l):=by
 refine⟨Qsx l,fun j p hj=>?_⟩;obtain⟨h,rfl⟩:=List.getElem?_eq_some_iff.1 hj;rw[Qsy l j h];exact hR _
theorem Qta{R:Ent→List Value→Prop}(hR:∀x c,R x c→c=encE x){l:List Ent}{cs:List Value}(h:Reps R 2 l cs):cs=Qsw l:=by
 have hl:cs.length=l.length*2:=h.1;apply List.ext_getElem?;intro t
 by_cases ht:t<l.length*2
 ·have hj:t/2<l.length:=by omega
  have h1:=hR _ _ (h.2 (t/2) _ (List.getElem?_eq_getElem hj));have h2:=Qsy l (t/2) hj;rw[← h1]at h2;have e:∀xs:List Value,((xs.drop (t/2*2)).take 2)[t%2]? = xs[t]?:=by
   intro xs;rw[List.getElem?_take,if_pos (Nat.mod_lt _ (by omega)),List.getElem?_drop]
   congr 1
   omega
  rw[← e cs,← e (Qsw l),h2]
 ·rw[List.getElem?_eq_none (by omega),List.getElem?_eq_none (by rw[Qsx];omega)]
theorem RE.of_own{W:World}{b:Nat}{v:Value}{l:List Ent}(h:W.ownsRow b 117 2 v l.length (Qsw l)):RE W b v l :=
 ⟨fun _ _=>trivial,Qsw l,h,repsE (fun x=>Qko _ _ _ x) l⟩
theorem RE.own{W:World}{b:Nat}{v:Value}{l:List Ent}(h:RE W b v l):W.ownsRow b 117 2 v l.length (Qsw l):=by
 obtain⟨_,inner,ho,hr⟩:=h;have e:=Qta (fun x c hM=>Qkn hM) hr;rw[← e];exact ho
def Qtb(l:List Ent):List Ent:=l.mergeSort (fun x y=>!(ltOf cfE) y x)
theorem Qtc(l:List Ent):(Qtb l).length=l.length:=List.length_mergeSort _
theorem Qtd(x y:Ent):ltOf cfE x y=(decide (x.f0<y.f0) ||(decide (x.f0=y.f0) && decide (x.f1<y.f1))):=by
 unfold ltOf cfE
 by_cases h1:x.f0<y.f0
 ·simp[h1]
 ·by_cases h2:y.f0<x.f0
  ·have:x.f0≠y.f0:=by omega
   simp[h1,h2,this]
  ·have:x.f0=y.f0:=by omega
   by_cases h3:x.f1<y.f1
   ·simp[h1,h2,h3,this]
   ·by_cases h4:y.f1<x.f1<;>simp[h1,h2,h3,h4,this]
theorem swoE:SWO (ltOf cfE) where
 irrefl x:=by rw[Qtd];simp
 trans x y z h1 h2:=by rw[Qtd]at *;simp at *;omega
 ntrans x y z h1 h2:=by rw[Qtd]at *;simp at *;omega
theorem totE(x y:Ent)(h1:ltOf cfE x y=false)(h2:ltOf cfE y x=false):x=y:=by
 rw[Qtd]at h1 h2;simp at h1 h2
 cases x;cases y
 simp_all
 omega
instance:Inhabited Ent:=⟨⟨0,0⟩⟩
theorem Qte(blk off size:Nat)(w:World):CmpLays Tryz.prog 118 #[] encE 2 cfE blk off size w :=
 fun _ _ _ _ x y=>cmp_gr x y _
theorem Qtf(l:List Ent):(flatK encE 2 l.toArray).toList=Qsw l:=by
 apply List.ext_getElem?;intro t;have hs:(flatK encE 2 l.toArray).size=l.length*2:=by simp
 by_cases ht:t<l.length*2
 ·rw[Array.getElem?_toList,Array.getElem?_eq_getElem (by rw[hs];exact ht)];have h1:=get_flatK encE 2 l.toArray t (by simpa using ht);rw[getElem!_pos (flatK encE 2 l.toArray) t (by rw[hs];exact ht)]at h1;have hj:t/2<l.length:=by omega
  have hx:l.toArray[t/2]! = l[t/2]:=by rw[getElem!_pos l.toArray (t/2) (by simpa using hj)];simp
  rw[h1,hx];have h2:=Qsz l (t/2);rw[List.getElem?_eq_getElem hj]at h2
  rcases Nat.mod_two_eq_zero_or_one t with h0|h0
  ·have h3:=h2.1;rw[show 2*(t/2)=t by omega]at h3;rw[h0,h3];rfl
  ·have h3:=h2.2;rw[show 2*(t/2)+1=t by omega]at h3;rw[h0,h3];rfl
 ·rw[List.getElem?_eq_none qq_23,List.getElem?_eq_none (by rw[Qsx];omega)]
theorem Qtg{W:World}{b g cap:Nat}{l:List Ent}(h:W.ownsRow b 117 2 (.slice (some ⟨g,0,none⟩) l.length cap) l.length (Qsw l)):HoldsK encE 2 W g 0 l.toArray:=by
 rcases h.2 with⟨hn,_⟩ |⟨g',cap',cur,he,hb,hh,h1,h2,h3,h4⟩
 ·cases hn
 cases he
 intro j hj;have hj':j<l.length*2:=by simpa using hj
 refine⟨?_,by simp[World.frozen?,hh]⟩;have h5:(cur.toList.take (l.length*2))[j]? = (Qsw l)[j]?:=by rw[h4]
 rw[List.getElem?_take_of_lt hj']at h5;simp only[World.cell?,hh,Nat.zero_add];simp only[Option.isSome_none,Bool.false_eq_true,if_false];rw[← Array.getElem?_toList,h5,← Qtf l,Array.getElem?_toList,Array.getElem?_eq_getElem hj,getElem!_pos (flatK encE 2 l.toArray) j hj];rfl
theorem heapE{w:World}{g n:Nat}{os:Array Obj}{cur:Array Value}{e:TypeId}{fr:Nat × Nat}(d:Array Ent)(hb:w.heap[g]? = some (.cells cur e fr)) :
  (sortWorldK encE 2 w g 0 n d os).heap[g]? = some (.cells (putCells id 0 (flatK encE 2 d) cur) e fr):=by
 have hg:g<w.heap.size:=(Array.getElem?_eq_some_iff.1 hb).1;unfold sortWorldK putRowK;rw[heap_grow_old _ _ (by simpa using hg)];simp[putRow,mapBlock,Sort.ahead,Array.getElem?_modify,hb,onCells]
theorem grownE{w:World}{g n:Nat}{os:Array Obj}(d:Array Ent):w.grownBy (sortWorldK encE 2 w g 0 n d os) (some g):=by
 unfold sortWorldK putRowK;refine⟨rfl,rfl,rfl,by simp,fun k hk hne=>?_⟩;rw[heap_grow_old _ _ (by simpa using hk)];have:g≠k:=fun e=>hne (by rw[e])
 simp[putRow,mapBlock,Sort.ahead,Array.getElem?_modify,this]
theorem takeE(cur:Array Value)(l:List Ent)(h:l.length*2≤cur.size):(putCells id 0 (flatK encE 2 l.toArray) cur).toList.take (l.length*2)=Qsw l:=by
 apply List.ext_getElem?;intro j
 by_cases hj:j<l.length*2
 ·rw[List.getElem?_take_of_lt hj,Array.getElem?_toList,← Qtf l,Array.getElem?_toList];have hs:(flatK encE 2 l.toArray).size=l.length*2:=by simp
  rw[Array.getElem?_eq_getElem (xs:=flatK encE 2 l.toArray) (by rw[hs];exact hj)];simp only[putCells,Array.getElem?_mapIdx,Nat.zero_le,true_and,Nat.zero_add,hs,hj,if_true,Nat.sub_zero,id];rw[Array.getElem?_eq_getElem (xs:=cur) (by omega),getElem!_pos (flatK encE 2 l.toArray) j (by rw[hs];exact hj)];rfl
 ·rw[List.getElem?_take_eq_none (by omega),List.getElem?_eq_none (by rw[Qsx];omega)]
theorem Qth{w:World}{b g cap n:Nat}{os:Array Obj}{l m:List Ent}(hl:m.length=l.length)(h:w.ownsRow b 117 2 (.slice (some ⟨g,0,none⟩) l.length cap) l.length (Qsw l)) :
  (sortWorldK encE 2 w g 0 n m.toArray os).ownsRow b 117 2 (.slice (some ⟨g,0,none⟩) l.length cap) l.length (Qsw m):=by
 rcases h.2 with⟨hn,_⟩ |⟨g',cap',cur,he,hb,hh,h1,h2,h3,h4⟩
 ·cases hn
 cases he
 exact⟨by rw[Qsx,hl],.inr ⟨g,cap,_,rfl,hb,heapE _ hh,h1,h2,by simp[putCells,h3],by rw[← hl];exact takeE cur m (by omega)⟩⟩
theorem Qti(b:Nat)(v:Value)(l:List Ent)(w:World)(hR:RE w b v l)(hl:l.length≤1099511627776) :
  Calls Tryz.prog 116 #[v] w fun e w'=>∃v1,e=.returned v1∧RE w' w.heap.size v1 l∧Below w.heap.size w w':=by
 have ho:=RE.own hR
 rcases ho.2 with⟨rfl,hn⟩ |⟨g,cap,cur,rfl,hb,hh,h1,h2,h3,h4⟩
 ·have hcon:=AnyE.slices_Clone_nil Tryz.cloneEnt 0 0 w;refine hcon.mono fun e w' ⟨he,hw⟩=>⟨_,he,?_,?_⟩
  ·have h0:l=[]:=List.eq_nil_of_length_eq_zero (by omega);rw[h0];exact Kd.R_nil _ _ _ _ _
  ·rw[hw];exact Below.refl _ _
 ·obtain⟨i0,hi,hzz⟩:=Option.map_eq_some_iff.1 Qro;simp only[Prod.mk.injEq]at hzz;obtain⟨hz0,hz1,hz2⟩:=hzz;have hcon:=AnyE.slices_Clone Tryz.cloneEnt i0 _ 2 16 hi hz0 hz1 hz2 rfl (by omega) Tryz.sizeOf117 g 0 l.length cap (Qsw l) w (Qsx l) (by unfold maxLen;omega) (by omega) (fun j u hj=>by
    have hj':j<l.length*2:=by
     have:=(List.getElem?_eq_some_iff.1 hj).1;rw[Qsx]at this;exact this
    have h5:(cur.toList.take (l.length*2))[j]? = (Qsw l)[j]?:=by rw[h4]
    rw[List.getElem?_take_of_lt hj']at h5;simp only[World.cell?,hh,Nat.zero_add];simp only[Option.isSome_none,Bool.false_eq_true,if_false];rw[← Array.getElem?_toList,h5,hj]) (fun u hu=>by
    obtain⟨x,_,hx⟩:=List.mem_flatMap.1 hu;simp[encE]at hx
    rcases hx with rfl|rfl<;>rfl)
  exact hcon.mono fun e w' ⟨v',he,hown,_,hb'⟩=>⟨v',he,RE.of_own hown,hb'⟩
def Apart(l:List Ent):Prop:=∀i:Nat,i+1<l.length→(Qkp l ((i+1:Nat):Int)).f0≠(Qkp l (i:Int)).f0∨(Qkp l ((i+1:Nat):Int)).f1≠(Qkp l (i:Int)).f1
theorem Qtj(A:Option Addr)(n c:Nat)(l:List Ent)(w:World)(hn:n=l.length)(hC:Kd.C k117 w A n l)(hA:Apart l)(hl:l.length≤1099511627776) :
  Calls Tryz.prog 119 #[.slice A n c] w fun e w'=>e=.returned (.slice A n c)∧Drawn0 w w':=by
 have hu:=Tryz.underlying117;have HN:=QA hn;have HL:n≤1099511627776:=by omega
 have HC:=QA hC;have HA:=QA hA;clear hn hC hA hl
 by_cases h2:n<2
 ·have hb:decide ((n:Int)<2)=true:=decide_eq_true (by omega)
  go_enter Tryz.func119,Tryz.ntmps119
  go_wp2;go_ret
  exact⟨rfl,Drawn0.refl _⟩
 ·have hb:decide ((n:Int)<2)=false:=decide_eq_false (by omega)
  go_enter Tryz.func119,Tryz.ntmps119
  go_wp2
  go_loopw [3] (fun i wr=>∃(k:Nat) (iv:Int),1≤k∧k≤n∧i=.int .i64 iv∧Aside0 (iv=(k:Int))∧Drawn0 w wr) (fun i _=>((n:Int)-intOf i).toNat)
  case atStart=>exact⟨1,1,by omega,by omega,rfl,⟨rfl⟩,Drawn0.refl _⟩
  case round =>
   obtain⟨k,iv,hk1,hkn,rfl,HI,⟨m1,rfl⟩⟩:=hrel
   by_cases hlt:k<n
   ·have h0:0≤iv:=by have:=HI.out;omega
    have h1:iv<(n:Int):=by have:=HI.out;omega
    obtain⟨jv,hjv⟩:∃jv,jv=iv-1:=⟨_,rfl⟩;have hm:0≤jv:=by have:=HI.out;omega
    have hm1:jv<(n:Int):=by omega
    have hb1:decide (iv<(n:Int))=true:=decide_eq_true h1;obtain⟨ad,rfl,x0,x1⟩:=Qkq HC.out iv h0 h1;obtain⟨ad',e',y0,y1⟩:=Qkq HC.out jv hm hm1
    cases e'
    have hne:((Qkp l iv).f0 == (Qkp l jv).f0 && ((Qkp l iv).f1 == (Qkp l jv).f1))=false:=by
     have h:=HA.out (k-1) qq_21;rw[show k-1+1=k by omega,show((k-1:Nat):Int)=jv by(have:=HI.out;omega),← HI.out]at h
     rcases h with h|h<;>simp[h]
    have hwr:IntKind.i64.wrap (iv-1)=jv:=by rw[IntWalk.i64_in _ (by omega)];exact hjv.symm
    have HJ:=QA hjv;clear hjv;go_wp2
    go_quiet (fail)
    clear hwr;go_wp2
    go_roundw
    case rel=>exact⟨k+1,iv+1,by omega,by omega,by go_num,⟨by have:=HI.out;omega⟩,by repeat(first|exact Drawn0.refl _|apply Drawn0.step)⟩
    case measure=>simp[intOf];omega
   ·have hge:¬iv<(n:Int):=by have:=HI.out;omega
    have hb1:decide (iv<(n:Int))=false:=decide_eq_false hge;go_wp2;go_ret
    exact⟨rfl,by repeat(first|exact Drawn0.refl _|apply Drawn0.step)⟩
theorem Qtk(b:Nat)(v:Value)(l:List Ent)(w:World)(hR:RE w b v l)(hl:l.length≤1099511627776) :
  Calls Tryz.prog 117 #[v,.func (.func 118) #[] #[]] w fun e w'=>e=.returned (.tuple #[])∧RE w' b v (Qtb l)∧w.grownBy w' v.ownBlock:=by
 have ho:=RE.own hR
 rcases ho.2 with⟨rfl,hn⟩ |⟨g,cap,cur,rfl,hb,hh,h1,h2,h3,h4⟩
 ·have hcon:=AnyF.slices_SortFunc_none (P:=Tryz.prog) (ρ:=Tryz.sortEnt_ren) { Tryz.sortEnt with } none 0 (.func (.func 118) #[] #[]) w;refine hcon.mono fun e w' ⟨he,hw⟩=>⟨he,?_,?_⟩
  ·have h0:l=[]:=List.eq_nil_of_length_eq_zero (by omega);rw[h0,show Qtb []=[] from List.eq_nil_of_length_eq_zero (Qtc [])];exact Kd.R_nil _ _ _ _ _
  ·rw[hw];exact World.grownBy.refl w _
 ·have eg:∀args w,(callFunc 118 args).run Tryz.prog w=.ok (.enter 118 args) w:=enters_of Tryz.func118 qq_6 rfl;have hcon:=AnyQ.slices_SortFunc_total Tryz.sortEnt 2 Tryz.isAgg117 Tryz.sizeOf117 encE (fun _=>rfl) (fun x v hv=>by simp[encE]at hv;rcases hv with rfl|rfl<;>rfl) cfE swoE 118 #[] g 0 cap l.toArray w eg (Qte g 0 l.toArray.size w) (Qtg ho) (Qeo hh) qq_23 totE;refine hcon.mono fun e w' ⟨he,n,os,hw⟩=>⟨he,?_,?_⟩
  ·rw[hw];have hs:=Qth (n:=n) (os:=os) (m:=Qtb l) (Qtc l) ho;rw[← Qtc l]at hs;have:=RE.of_own hs;rw[Qtc l]at this;exact this
  ·rw[hw];exact grownE _
theorem Qtl(l:List Ent):(Qtb l).Perm l:=List.mergeSort_perm _ _
theorem Qtm{l:List Ent}(h:l.Nodup):Apart (Qtb l):=by
 have hd:(Qtb l).Nodup:=(Qtl l).nodup_iff.2 h;intro i hi;have e1:Qkp (Qtb l) ((i+1:Nat):Int)=(Qtb l)[i+1]:=by simp[Qkp,List.getElem?_eq_getElem hi]
 have e2:Qkp (Qtb l) (i:Int)=(Qtb l)[i]:=by simp[Qkp,List.getElem?_eq_getElem (show i<(Qtb l).length by omega)]
 rw[e1,e2]
 by_cases h0:(Qtb l)[i+1].f0=(Qtb l)[i].f0
 ·by_cases h1:(Qtb l)[i+1].f1=(Qtb l)[i].f1
  ·exfalso
   have he:(Qtb l)[i+1]=(Qtb l)[i]:=by
    generalize (Qtb l)[i+1]=x at *;generalize (Qtb l)[i]=y at *
    cases x;cases y;simp_all
   have h2:=List.pairwise_iff_getElem.1 hd i (i+1) (by omega) hi (by omega);exact h2 he.symm
  ·exact .inr h1
 ·exact .inl h0
theorem Qtn(b:Nat)(v:Value)(l:List Ent)(w:World)(hR:RE w b v l)(hd:l.Nodup)(hl:l.length≤1099511627776) :
  Calls Tryz.prog 68 #[v] w fun e w'=>∃v1,e=.returned v1∧RE w' w.heap.size v1 (Qtb l)∧Below w.heap.size w w':=by
 have HR:=QA hR;have HD:=QA (Qtm hd);obtain⟨A,c,rfl⟩:=Kd.R_slice hR;clear hR hd;obtain⟨n,hn⟩:∃n,n=l.length:=⟨_,rfl⟩;rw[← hn]at HR ⊢;have HN:=QA hn;clear hn
 go_enter Tryz.func68,Tryz.ntmps68
 go_wp2_with (first
  |(go_at_call 116;refine(Qti b _ l _ HR.out hl).mono ?_;rintro e w1 ⟨v1,rfl,hR1,hb1⟩;obtain⟨A1,c1,e1⟩:=Kd.R_slice hR1;rw[← HN.out]at e1;subst e1;have HR1:=QA hR1;clear hR1)
  |(go_at_call 117;refine(Qtk _ _ l _ HR1.out hl).mono ?_;rintro e w2 ⟨rfl,hR2,hg2⟩;have HR2:=QA hR2;have hB2:Below w.heap.size w w2:=(hb1.grown hg2 hb1.size (fun k hk=>Kd.R_base HR1.out k hk));clear hR2 hg2)
  |(go_at_call 119;refine(Qtj A1 n c1 (Qtb l) _ (by rw[Qtc];exact HN.out) (by have h:=(Kd.R_reads' HR2.out).2.2;rw[Qtc,← HN.out]at h;exact h) HD.out (by rw[Qtc];exact hl)).mono ?_;rintro e w3 ⟨rfl,hd3⟩))
 go_ret
 refine⟨_,rfl,?_,hB2.trans (Qlf hd3.below hB2.size)⟩;exact Kd.R_below HR2.out hd3.below
end Go.Proofs.YtnnofopfbeklbaaGreat.C
end
section
namespace Go.Proofs.YtnnofopfbeklbaaGreat.C
open Go.RowKit Go.Proofs.YtnnofopfbeklbaaGreatW.PrintWords Go.Proofs.YtnnofopfbeklbaaGreatW.PrintLast Go.Proofs.YtnnofopfbeklbaaGreatW.PrintMore
def ltE(x y:Ent):Bool:=decide (cfE x y<0)
def Qto:List Ent→Bool
 | []=>true
 | [_]=>true
 | a :: b :: t=>ltE a b && Qto (b :: t)
theorem rdE(l:List Ent)(i:Nat)(h:i<l.length):Qkp l (i:Int)=l[i]:=by simp[Qkp,List.getElem?_eq_getElem h]
theorem Qtp(x y:Ent)(k:Nat)(hk:4≤k):Qdi.f k x.f0 x.f1 y.f0 y.f1=some (cfE x y):=by
 unfold Qdi.f;rw[Qrp,Option.bind_some,Qrq,Option.bind_some,Qei (g:=fun k=>Qah.f k [ci x.f0 y.f0,ci x.f1 y.f1]) (Qah.mono _) hk (or_is _ _),Option.bind_some,Qrr]
theorem Qtq{l:List Ent}{i:Nat}(h:i+1<l.length):Qto (l.drop i)=(ltE l[i] l[i+1] && Qto (l.drop (i+1))):=by
 rw[List.drop_eq_getElem_cons (by omega),List.drop_eq_getElem_cons h];rfl
theorem Qtr(l:List Ent)(hl:l.length≤1099511627776):∀(d i k:Nat),i+d=l.length→1≤i→d+6≤k→Qdj.l0 k l (i:Int)=some (Qto (l.drop (i-1)))
 | 0,i,k,h,hi,hk=>by
  obtain⟨k,rfl⟩:∃m,k=m+1:=⟨k-1,by omega⟩;unfold Qdj.l0;rw[if_neg (by omega)];have h1:(l.drop (i-1)).length≤1:=by rw[List.length_drop];omega
  match hd:l.drop (i-1),h1 with
  | [],_=>rfl
  | [_],_=>rfl
 | d+1,i,k,h,hi,hk=>by
  obtain⟨k,rfl⟩:∃m,k=m+1:=⟨k-1,by omega⟩;obtain⟨j,rfl⟩:∃j,i=j+1:=⟨i-1,by omega⟩;have w1:wrap64 (((j+1:Nat):Int)-1)=(j:Int):=by unfold wrap64;omega
  have w2:wrap64 (((j+1:Nat):Int)+1)=((j+2:Nat):Int):=by unfold wrap64;omega
  unfold Qdj.l0;rw[w1,w2,rdE l (j+1) (by omega),rdE l j (by omega)];rw[if_pos (by omega)];clear w1 w2;have hc:=Qtp l[j] l[j+1] k (by omega);have ih:=Qtr l hl d (j+2) k (by omega) (by omega) (by omega);rw[show j+2-1=j+1 by omega]at ih;rw[show j+1-1=j by omega,Qtq (by omega)];simp only[if_pos (show(0:Int)≤(j:Int)by omega),if_pos (show(j:Int)<(l.length:Int)by omega),if_pos (show(0:Int)≤((j+1:Nat):Int)by omega),if_pos (show((j+1:Nat):Int)<(l.length:Int)by omega),hc,Option.bind_some,ih];unfold ltE
  by_cases h0:cfE l[j] l[j+1]<0
  ·simp[h0,show ¬(0≤cfE l[j] l[j+1])by omega]
  ·simp[h0,show(0≤cfE l[j] l[j+1])by omega]
theorem Qts(l:List Ent)(hl:l.length≤1099511627776):Qdj.f (l.length+8) l=some (Qto l):=by
 unfold Qdj.f
 rcases Nat.eq_zero_or_pos l.length with h0|h0
 ·have h1:l=[]:=List.eq_nil_of_length_eq_zero h0;subst h1;rfl
 ·exact Qtr l hl (l.length-1) 1 (l.length+8) (by omega) (by omega) (by omega)
def Qtt(used:Int)(l:List Ent):Int:=if l.length=0 then 4 else if 1048576<l.length then 3 else if Qto l=false then 8 else if l.any (fun x=>decide (used≤x.f1))=true then 4 else 0
theorem Qtu(used:Int)(tv:Value)(B:Nat)(w:World)(hv:w.heap[B]? = some (.cells #[.int .u32 used,tv] 127 (0,0))) :
  PredBelow Tryz.prog 159 #[.pointer (some ⟨B,0,none⟩)] (fun x=>.agg (encE x).toArray) (fun x=>decide (used≤x.f1)) w:=fun W x hb=>by
 have hB:=Qeo hv;have hc:W.cell? ⟨B,0,none⟩=some (.int .u32 used):=(Qep (Qfe hv hb) 0).trans rfl;have hne:B≠W.heap.size:=by have:=hb.size;omega
 have hu:=Tryz.underlying117;have hu2:=Tryz.underlying127;have hBW:B<W.heap.size:=Nat.lt_of_lt_of_le hB hb.size;show Calls Tryz.prog 159 #[.agg #[.int .u64 x.f0,.int .u32 x.f1],.pointer (some ⟨B,0,none⟩)] W _;have b1:=Qff W (.cells #[.int .u64 x.f0,.int .u32 x.f1] 117);have hb1:Below W.heap.size W (W.alloc (.cells #[.int .u64 x.f0,.int .u32 x.f1] 117)):=Qdr (Below.refl _ _) _;have hca:(W.alloc (.cells #[.int .u64 x.f0,.int .u32 x.f1] 117)).cell? ⟨B,0,none⟩=some (.int .u32 used):=(Qep (Qfb (Qfe hv hb) _) 0).trans rfl;have hcb:(W.alloc (.cells #[.int .u64 x.f0,.int .u32 x.f1] 117)).cell? ⟨W.heap.size,1,none⟩=some (.int .u32 x.f1):=(Qep b1 1).trans rfl
 go_enter Tryz.func159,Tryz.ntmps159
 go_wp2;go_ret
 exact⟨rfl,hb.alloc hb.size _⟩
theorem Qtv(b:Nat)(used:Int)(A:Option Addr)(n c:Nat)(l:List Ent)(w:World)(hn:n=l.length)(hR:RE w b (.slice A n c) l)(hl:l.length≤1099511627776) :
  Calls Tryz.prog 111 #[.agg #[.int .u32 used,.slice A n c]] w fun e w'=>e=.returned (.int .i64 (Qtt used l))∧Below w.heap.size w w':=by
 have hu:=Tryz.underlying127;have hmf:∀(fn:Fn) (first cap:Array Value) (w:World),(Instr.makeFunc fn first cap).run Tryz.prog w=.ok (.func fn first cap) w:=fun _ _ _ _=>rfl
 have hb1:Below w.heap.size w (w.alloc (.cells #[.int .u32 used,.slice A n c] 127)):=Qdr (Below.refl _ _) _;have bk:=Qff w (.cells #[.int .u32 used,.slice A n c] 127);have hc0:(w.alloc (.cells #[.int .u32 used,.slice A n c] 127)).cell? ⟨w.heap.size,0,none⟩=some (.int .u32 used):=(Qep bk 0).trans rfl;have hc1:(w.alloc (.cells #[.int .u32 used,.slice A n c] 127)).cell? ⟨w.heap.size,1,none⟩=some (.slice A n c):=(Qep bk 1).trans rfl;have HR:=QA hR;have HN:=QA hn;have hk:Calls Tryz.prog 111 #[.agg #[.int .u32 used,.slice A n c]] w fun e w'=>e=.returned (.int .i64 (if n=0 then 4 else if 1048576<n then 3 else if Qto l=false then 8 else if l.any (fun x=>decide (used≤x.f1))=true then 4 else 0))∧Below w.heap.size w w':=by
  by_cases h0:n=0
  ·rw[if_pos h0];have e0:((n:Int) == 0)=true:=beq_iff_eq.2 (by omega);have E0:=QA h0;clear h0 hn hR hl
   go_enter Tryz.func111,Tryz.ntmps111
   go_wp2;go_ret
   exact⟨rfl,hb1⟩
  rw[if_neg h0];have e0:((n:Int) == 0)=false:=beq_eq_false_iff_ne.2 (by omega)
  by_cases h1:1048576<n
  ·rw[if_pos h1];have e1:decide ((1048576:Int)<(n:Int))=true:=decide_eq_true (by omega);clear hn hR hl h0
   go_enter Tryz.func111,Tryz.ntmps111
   go_wp2;go_ret
   exact⟨rfl,hb1⟩
  rw[if_neg h1];have e1:decide ((1048576:Int)<(n:Int))=false:=decide_eq_false (by omega);have hris:=Qts l hl;have HRI:=QA hris;have hC:Kd.C k117 (w.alloc (.cells #[.int .u32 used,.slice A n c] 127)) A n l:=by
   have h:=Kd.R_reads' hR;rw[hn];exact Kd.C_alloc h.2.2 _
  have hcap:n≤c:=(Kd.R_reads' hR).2.1;have hpos:0<l.length:=by omega
  obtain⟨g,cap,hf,hbg,hgl,cells,hgc⟩:=Kd.R_form hR hpos
  injection hf with hf1 hf2 hf3
  subst hf1;obtain⟨r,hr⟩:∃r,r=Qto l:=⟨_,rfl⟩;rw[← hr]at HRI ⊢;clear hr;have hcall:∀W,Kd.C k117 W (some ⟨g,0,none⟩) n l→Calls Tryz.prog 160 #[.slice (some ⟨g,0,none⟩) n c] W fun e w'=>e=.returned (.bool r)∧Below W.heap.size W w':=by
   intro W hCW;have hcw2:=hCW;rw[hn]at hCW ⊢;exact Qdj.calls _ _ c l r W hCW (by omega) HRI.out
  have HCL:=QA hcall;have HC:=QA hC;clear hris hcall hC hn hgc hf2 hf3
  cases r with
  | false =>
   rw[if_pos rfl];clear hR hl h0 h1
   go_enter Tryz.func111,Tryz.ntmps111
   go_wp2_with (go_at_call 160;refine(HCL.out _ HC.out).mono ?_;rintro e w1 ⟨rfl,hb2⟩)
   go_ret
   exact⟨rfl,Qdu hb1 hb1.size hb2⟩
  | true =>
   rw[if_neg (by decide)];obtain⟨q,hq⟩:∃q,q=l.any (fun x=>decide (used≤x.f1)):=⟨_,rfl⟩;rw[← hq];have eg:∀args w,(callFunc 159 args).run Tryz.prog w=.ok (.enter 159 args) w:=enters_of Tryz.func159 qq_6 rfl;have hany:∀W1:World,Below (w.alloc (.cells #[.int .u32 used,.slice (some ⟨g,0,none⟩) n c] 127)).heap.size (w.alloc (.cells #[.int .u32 used,.slice (some ⟨g,0,none⟩) n c] 127)) W1 →
     Calls Tryz.prog 161 #[.slice (some ⟨g,0,none⟩) n c,.func (.func 159) #[] #[.pointer (some ⟨w.heap.size,0,none⟩)]] W1 fun e w'=>e=.returned (.bool q)∧Below W1.heap.size W1 w':=by
    intro W1 hW1;have hRW:=Kd.R_below (Kd.R_below HR.out hb1) hW1;have hown:=RE.own hRW;have hH:=Qtg (b:=b) (g:=g) (cap:=c) (l:=l) (by rw[← HN.out];rw[← HN.out]at hown;exact hown);have hcon:=AnyQ.slices_ContainsFunc Tryz.hasEnt 2 Tryz.isAgg117 Tryz.sizeOf117 encE (fun _=>rfl) (fun x=>decide (used≤x.f1)) 159 #[.pointer (some ⟨w.heap.size,0,none⟩)] eg g 0 n c l W1
     (Qtu used _ w.heap.size W1 (Qfe bk hW1)) qq_21 qq_21 (by have:=hW1.size;rw[World.size_alloc]at this;omega) (fun j hj i v hv=>by
      have h2:=Qsz l j;have hjl:l[j]? = some l[j]!:=by rw[List.getElem?_eq_getElem hj,getElem!_pos l j hj]
      rw[hjl]at h2;generalize l[j]! = x at *;have key:(Qsw l)[2*j+i]? = some v:=by
       match i,hv with
       | 0,hv=>simp[encE]at hv;rw[← hv];exact h2.1
       | 1,hv=>simp[encE]at hv;rw[← hv];exact h2.2
       | i+2,hv=>simp[encE]at hv
      have hlt:j*2+i<l.length*2:=by
       have:=(List.getElem?_eq_some_iff.1 key).1;rw[Qsx]at this;omega
      rcases hown.2 with⟨hn',_⟩ |⟨g',cap',cur,he,hb',hh,hh1,hh2,hh3,hh4⟩
      ·cases hn'
      cases he
      have h5:(cur.toList.take (l.length*2))[j*2+i]? = (Qsw l)[j*2+i]?:=by rw[hh4]
      rw[List.getElem?_take_of_lt hlt]at h5;simp only[World.cell?,hh,Nat.zero_add];simp only[Option.isSome_none,Bool.false_eq_true,if_false];rw[← Array.getElem?_toList,h5,show j*2+i=2*j+i by omega,key])
    rw[List.take_of_length_le qq_21,← hq]at hcon;exact hcon
   have HA:=QA hany;clear hany hR hl h0 h1 hq eg
   cases q with
   | true =>
    rw[if_pos rfl]
    go_enter Tryz.func111,Tryz.ntmps111
    go_wp2_with (first
     |(go_at_call 160;refine(HCL.out _ HC.out).mono ?_;rintro e w1 ⟨rfl,hb2⟩;have hk2:=Qfe bk hb2;have hd1:w1.cell? ⟨w.heap.size,1,none⟩=some (.slice (some ⟨g,0,none⟩) n c):=(Qep hk2 1).trans rfl)
     |(go_at_call 161;refine(HA.out _ hb2).mono ?_;rintro e w2 ⟨rfl,hb3⟩))
    go_ret
    exact⟨rfl,Qdu (Qdu hb1 hb1.size hb2) (Nat.le_trans hb1.size hb2.size) hb3⟩
   | false =>
    rw[if_neg (by decide)]
    go_enter Tryz.func111,Tryz.ntmps111
    go_wp2_with (first
     |(go_at_call 160;refine(HCL.out _ HC.out).mono ?_;rintro e w1 ⟨rfl,hb2⟩;have hk2:=Qfe bk hb2;have hd1:w1.cell? ⟨w.heap.size,1,none⟩=some (.slice (some ⟨g,0,none⟩) n c):=(Qep hk2 1).trans rfl)
     |(go_at_call 161;refine(HA.out _ hb2).mono ?_;rintro e w2 ⟨rfl,hb3⟩))
    go_ret
    exact⟨rfl,Qdu (Qdu hb1 hb1.size hb2) (Nat.le_trans hb1.size hb2.size) hb3⟩
 refine hk.mono fun e w' ⟨he,hb⟩=>⟨?_,hb⟩
 rw[he];unfold Qtt;rw[HN.out]
def Qtw(used:Int)(l:List Ent):List Int:=Qqw ([4]++leb l.length 4++leb used 4++l.flatMap ent++(Qrz l).flatMap (fun x=>leb x 8))
theorem RU.tk{W W':World}{b g:Nat}{v:Value}{xs:List Int}{ys:List Int}{b':Nat}(h:RU W b v xs)(hI:IsBuf W b' g ys)(hT:Tk g W W'):RU W' b v xs:=by
 obtain⟨u,hu,_⟩:=hI;refine Kd.R_mono (Kd.R_step (Kd.R_bound h) (fun k hk _=>?_)) (fun _ _=>trivial);obtain⟨q,hq,cells,hc⟩:=hk.2.2.2;have hq':q=34:=by simpa [Kd.int,Kd.scalar]using hq
 subst hq';rw[hc];exact hT k cells _ hc (by decide) (Qes hc hu (by decide))
theorem Qtx{W:World}{B:Nat}{u:Int}{v:Value}(h:W.heap[B]? = some (.cells #[.int .u32 u,v] 127 (0,0))):W.cell? ⟨B,0,none⟩=some (.int .u32 u)∧W.cell? ⟨B,1,none⟩=some v :=
 ⟨(Qep h 0).trans rfl,(Qep h 1).trans rfl⟩
theorem Qty{l:List Ent}(hwf:∀x∈l,(0≤x.f0∧x.f0<18446744073709551616)∧0≤x.f1∧x.f1<4294967296):∀x∈Qrz l,0≤x∧x<18446744073709551616:=by
 intro x hx;unfold Qrz at hx;obtain⟨k,hk,rfl⟩:=List.mem_map.1 hx;have hk':=List.mem_range.1 hk;have hkl:k*16<l.length:=by unfold chN at hk';omega
 unfold Qry;rw[rdE l (k*16) hkl];exact(hwf _ (List.getElem_mem hkl)).1
theorem Qtz(l:List Ent):(Qrz l).length=chN l.length:=by simp[Qrz]
theorem Qua(x y:Int)(l:List Ent):([]++[4]++leb x 4++leb y 4++l.flatMap ent).length=9+12*l.length:=by
 rw[List.length_append,List.length_append,List.length_append,List.length_append,Qld,Qld,Qmt];rfl
theorem Qub(x y:Int)(l:List Ent):([]++[4]++leb x 4++leb y 4++l.flatMap ent++(Qrz l).flatMap (fun x=>leb x 8)).length=9+12*l.length+8*(Qrz l).length:=by
 rw[List.length_append,Qua,Qmq]
theorem Quc(b:Nat)(used:Int)(A:Option Addr)(n c:Nat)(l:List Ent)(w:World)(hn:n=l.length)(hR:RE w b (.slice A n c) l)(hchk:Qtt used l=0)(hu0:0≤used)(hu1:used<4294967296)
  (hwf:∀x∈l,(0≤x.f0∧x.f0<18446744073709551616)∧0≤x.f1∧x.f1<4294967296) :
  Calls Tryz.prog 67 #[.agg #[.int .u32 used,.slice A n c]] w fun e w'=>∃v,e=.returned (.tuple #[v,.int .i64 0])∧R8 w' w.heap.size v (Qtw used l)∧Below w.heap.size w w':=by
 have hu:=Tryz.underlying127;have p:n≠0:=by intro h;unfold Qtt at hchk;rw[if_pos (by omega)]at hchk;cases hchk
 have q:n≤1048576:=by
  apply Decidable.byContradiction;intro h;unfold Qtt at hchk;rw[if_neg (by omega),if_pos (by omega)]at hchk
  cases hchk
 have hpos:0<l.length:=by omega
 obtain⟨g,cap,hf,hbg,hgl,cells,hgc⟩:=Kd.R_form hR hpos
 injection hf with hf1 hf2 hf3
 subst hf1;have hcap:n≤c:=(Kd.R_reads' hR).2.1;have hC:Kd.C k117 w (some ⟨g,0,none⟩) n l:=by
  have h:=Kd.R_reads' hR;rw[hn];exact h.2.2
 have HN:=QA hn;have HR:=QA hR;have HCK:=QA (Qtv b used (some ⟨g,0,none⟩) n c l w hn hR (by omega));have hck:Aside0 (Qtt used l=0):=⟨hchk⟩;have HC:=QA hC;have HWF:=QA hwf;have hbn:=Qff w (.cells #[.int .u32 used,.slice (some ⟨g,0,none⟩) n c] 127);have hba:Below w.heap.size w (w.alloc (.cells #[.int .u32 used,.slice (some ⟨g,0,none⟩) n c] 127)):=Qdr (Below.refl _ _) _;have HRa:=QA (Kd.R_alloc hR (.cells #[.int .u32 used,.slice (some ⟨g,0,none⟩) n c] 127));have hmod:(n:Int)%4294967296=(n:Int):=by omega
 have HM:=QA hmod;obtain⟨c0,c1⟩:=Qtx hbn;clear hn hR hchk hC hwf hgc hf2 hf3 hmod hpos
 go_enter Tryz.func67,Tryz.ntmps67
 go_wp2_with (first
  |(go_at_call 111;refine(Qtv b used (some ⟨g,0,none⟩) n c l _ HN.out HRa.out qq_21).mono ?_;rw[hck.out];rintro ee w1 ⟨rfl,hb1⟩;have hk1:=Qfe hbn hb1;have hw1:=QA (Qdu hba hba.size hb1);have hs1':=QA (show w.heap.size<w1.heap.size from Qeo hk1);have HI1:=QA (IsBuf.new w1 w.heap.size);have hk1':=Qfb hk1 (.cells #[.slice none 0 0] 167);clear hk1 hb1 hbn hba c0 c1;obtain⟨c0,c1⟩:=Qtx hk1'))
 obtain⟨W,hW⟩:∃W,W=w1.alloc (.cells #[.slice none 0 0] 167):=⟨_,rfl⟩;have hbW:Below w1.heap.size w1 W:=by rw[hW];exact Qdr (Below.refl _ _) _
 rw[← hW]at hk1' c0 c1 HI1 ⊢;clear hW;have hkd:=Qfe hk1' (Qds (Below.refl W.heap.size W));have hId:=HI1.out.kept (Qds (Below.refl W.heap.size W));obtain⟨j0,j1⟩:=Qtx hkd;have hg:=Nat.le_of_lt hs1'.out;have hzd:w.heap.size≤W.drew.heap.size:=Nat.le_trans hg hbW.size;have hne:=Nat.ne_of_lt hs1'.out;have hnn0:(0:Int)≤(n:Int):=by omega
 have hnn1:(n:Int)≤1048576:=by omega
 have j:(0:Int)≤(n:Int)%4294967296:=by omega
 have k:(n:Int)%4294967296<4294967296:=by omega
 go_region_held3 (fun w'=>w'.cell? ⟨w.heap.size,0,none⟩=some (.int .u32 used)∧w'.cell? ⟨w.heap.size,1,none⟩=some (.slice (some ⟨g,0,none⟩) n c)) (first|exact⟨j0,j1⟩|exact⟨i0,i1⟩|exact⟨i2,i3⟩|exact⟨i4,i5⟩) (first
  |(go_at_call 94;refine(Qlj w.heap.size w1.heap.size 4 [] W.drew (by decide) (by decide) hg hzd hId (by simp)).mono ?_;rintro ee w2 ⟨rfl,hI2,hb2⟩;have hk2:=hb2.2 _ _ _ hkd (by decide) hne;obtain⟨i0,i1⟩:=Qtx hk2)
  |(go_at_call_of 112 (Value.int .u32 used);refine(Qll w.heap.size w1.heap.size used _ w3 hu0 hu1 hg (Nat.le_trans (Nat.le_trans hzd hb2.size) hb3.size) hI3 (by simp[Qld])).mono ?_;rintro ee w4 ⟨rfl,hI4,hb4⟩;have hk4:=hb4.2 _ _ _ hk3 (by decide) hne;obtain⟨i4,i5⟩:=Qtx hk4)
  |(go_at_call 112;refine(Qll w.heap.size w1.heap.size ((n:Int)%4294967296) ([]++[4]) w2 j k hg (Nat.le_trans hzd hb2.size) hI2 (by simp)).mono ?_;rintro ee w3 ⟨rfl,hI3,hb3⟩;have hk3:=hb3.2 _ _ _ hk2 (by decide) hne;obtain⟨i2,i3⟩:=Qtx hk3))
 have hz4:w.heap.size≤w4.heap.size:=Nat.le_trans (Nat.le_trans (Nat.le_trans hzd hb2.size) hb3.size) hb4.size;have a:=QA (show Below w.heap.size w w4 from((((hw1.out.trans (Qlf hbW hg)).trans (Qlf (Qds (Below.refl W.heap.size W)) (Nat.le_trans hg hbW.size))).trans hb2.1).trans hb3.1).trans hb4.1);clear i0 i1 i2 i3 j0 j1 c0 c1 hk2 hk3 hb2 hb3 hb4 hI2 hI3 hkd hId;have hlt:(Qrz l).length≤65536:=by rw[Qtz];unfold chN;have:=HN.out;omega
 have hCw:∀W',Below w.heap.size w W'→Kd.C k117 W' (some ⟨g,0,none⟩) l.length l:=by
  intro W' hb;have:=Kd.C_below HC.out hb;rw[HN.out]at this;exact this
 have HCW:=QA hCw;clear hCw;have htab:∀(xs:List Int) (W':World),xs.length≤100→Below w.heap.size w W'→IsBuf W' w.heap.size w1.heap.size xs→w.heap.size≤W'.heap.size →
   Calls Tryz.prog 113 #[.pointer (some ⟨w1.heap.size,0,none⟩),.slice (some ⟨g,0,none⟩) n c] W' fun e w'=>(∃v,e=.returned v)∧IsBuf w' w.heap.size w1.heap.size (xs++l.flatMap ent)∧Bw w.heap.size w1.heap.size W' w':=by
  intro xs W' hxs hb hI hz;rw[HN.out];exact Qmu w.heap.size w1.heap.size (some ⟨g,0,none⟩) c l xs W' (fun W2 h2=>HCW.out W2 (hb.trans h2.1)) HWF.out hg hz hI qq_21
 have HT:=QA htab;clear htab
 go_wp2_with (first
  |(go_at_call 113;refine(HT.out _ w4 (by simp[Qld]) a.out hI4 hz4).mono ?_;rintro ee w5 ⟨⟨_,rfl⟩,hI5,hb5⟩;have hk5:=hb5.2 _ _ _ hk4 (by decide) hne;clear i4 i5;obtain⟨i6,i7⟩:=Qtx hk5;have hz5:w.heap.size≤w5.heap.size:=Nat.le_trans hz4 hb5.size;have d:=QA (a.out.trans hb5.1))
  |(go_at_call 115;refine(Qsc ⟨g,0,none⟩ c n l w5 HN.out (by have:=HCW.out w5 d.out;rw[← HN.out]at this;exact this) hcap (by omega)).mono ?_;rintro ee w6 ⟨⟨v6,rfl,hR6⟩,hb6⟩;obtain⟨A6,c6,rfl⟩:=Kd.R_slice hR6;have hI6:=hI5.kept hb6;have m:=QA (Qdu d.out hz5 hb6);have hz6:w.heap.size≤w6.heap.size:=Nat.le_trans hz5 hb6.size)
  |(go_at_call 114;refine(Qmr w.heap.size w1.heap.size A6 c6 (Qrz l) _ w6 (fun W2 h2=>(Kd.R_reads' (RU.tk hR6 hI6 h2.2)).2.2) (Qty HWF.out) hg hz6 hI6 (by rw[Qua];have:=HN.out;omega)).mono ?_;rintro ee w7 ⟨⟨_,rfl⟩,hI7,hb7⟩;have hz7:w.heap.size≤w7.heap.size:=Nat.le_trans hz6 hb7.size;have o:=QA (m.out.trans hb7.1))
  |(go_at_call 97;refine(Qlq w.heap.size w1.heap.size _ w7 hI7 (by rw[Qub];have:=HN.out;omega)).mono ?_;rintro ee w8 ⟨v8,rfl,hR8,hb8⟩;obtain⟨A8,n8,c8,rfl,r,hlc8,hC8⟩:=R8.reads hR8)
  |(go_at_call 96;refine(Qrc A8 n8 c8 _ w8 hC8 (by rw[Qub];have:=HN.out;omega)).mono ?_;rintro ee w9 ⟨v9,rfl,hR9,hb9⟩))
 refine bodyPost_ret (results_tmp2 rfl _ _ _) rfl ?_;have hz8:w.heap.size≤w8.heap.size:=Nat.le_trans hz7 hb8.size;refine⟨v9,rfl,?_,(o.out.trans (Qlf hb8 hz7)).trans (Qlf hb9 hz8)⟩;have hL:=R8.low hR9 hz8;unfold Qtw;rw[HM.out,HN.out]at hL;exact hL
theorem bd_Seal(b g:Nat)(R:Room5)(fr:List Int)(tb:List S117)(sz:Nat)(w:World)(hI:IsBd w b g R fr tb)(hbw:b≤w.heap.size)(htb:tb≠[])(hnd:tb.Nodup)(htl:tb.length≤1099511627776)
  (hwf:∀x∈tb,(0≤x.f0∧x.f0<18446744073709551616)∧0≤x.f1∧x.f1<4294967296) (hchk:Qtt ((fr.length:Int)%4294967296) (Qtb tb)=0)
  (hsz:Qam.f R.1 R.2.1=some (sz:Int)) (hle:fr.length+(Qtw ((fr.length:Int)%4294967296) (Qtb tb)).length≤sz) (hs2:sz≤70368744177664) :
  Calls Tryz.prog 28 #[.pointer (some ⟨g,0,none⟩)] w fun e w'=>∃v:Value,e=.returned (.tuple #[v,.int .i64 0])∧R8 w' w.heap.size v (fr++Qtw ((fr.length:Int)%4294967296) (Qtb tb)++List.replicate (sz-(fr++Qtw ((fr.length:Int)%4294967296) (Qtb tb)).length) 255)∧Below w.heap.size w w':=by
 have hu:=Tryz.underlying127;have hu3:=Tryz.underlying108;obtain⟨F,hF⟩:∃F,F=Qtw ((fr.length:Int)%4294967296) (Qtb tb):=⟨_,rfl⟩;rw[← hF]at hle ⊢;have HF:=QA hF;have HI:=QA hI;obtain⟨fv,tv,hv,hR,hT⟩:=hI;obtain⟨AT,cT,rfl⟩:=Kd.R_slice hT;obtain⟨nT,hnT⟩:∃nT,nT=tb.length:=⟨_,rfl⟩;rw[← hnT]at hv hT;obtain⟨A,n,c,rfl,hn,hlc,hC⟩:=R8.reads hR;have hv':Qrm w g R (.slice A n c) (.slice AT nT cT):=hv;have hpos:0<nT:=by rw[hnT];exact List.length_pos_iff.2 htb
 have hb0:((nT:Int) == 0)=false:=beq_eq_false_iff_ne.2 (by omega);have hvd:Qrm w.drew g R (.slice A n c) (.slice AT nT cT):=hv';obtain⟨g0,g1,g2,g3,g4,g5,g6⟩:=Qrn hv';obtain⟨d0,d1,d2,d3,d4,d5,d6⟩:=Qrn hvd;have HNT:=QA hnT;have HT:=QA hT;have HV:=QA hvd;have HND:=QA hnd;have HWF:=QA hwf;have HCK:=QA hchk;have HSZ:=QA hsz;have j:(0:Int)≤(n:Int)%4294967296:=by omega
 have k:(n:Int)%4294967296<4294967296:=by omega
 have hTd:RE w.drew b (.slice AT nT cT) tb:=Kd.R_drew hT;have HTD:=QA hTd;clear hF hR hT hv hC hv' hvd hnT hnd hwf hchk hsz hTd htb
 go_enter Tryz.func28,Tryz.ntmps28
 go_wp2_with fail
 go_region_held3 (fun w'=>w'.cell? ⟨g,5,none⟩=some (.slice A n c)∧w'.cell? ⟨g,6,none⟩=some (.slice AT nT cT)) (first|exact⟨d5,d6⟩|exact⟨i5,i6⟩|exact⟨k5,k6⟩) (first
  |(go_at_call 68;refine(Qtn b _ tb w.drew HTD.out HND.out htl).mono ?_;rintro e w1 ⟨v1,rfl,hR1,hb1⟩;have hv1:Qrm w1 g R (.slice A n c) (.slice AT nT cT):=Qfe (w:=w.drew) HV.out hb1;obtain⟨i0,i1,i2,i3,i4,i5,i6⟩:=Qrn hv1;obtain⟨A1,c1,rfl⟩:=Kd.R_slice hR1)
  |(go_at_call 67;refine(Quc w.drew.heap.size ((n:Int)%4294967296) A1 _ c1 (Qtb tb) w1 rfl hR1 (by rw[hn.out];exact HCK.out) j k (fun x hx=>HWF.out x ((Qtl tb).mem_iff.1 hx))).mono ?_;rintro e w2 ⟨v2,rfl,hR2,hb2⟩;have hv2:Qrm w2 g R (.slice A n c) (.slice AT nT cT):=Qfe hv1 hb2;obtain⟨k0,k1,k2,k3,k4,k5,k6⟩:=Qrn hv2;obtain⟨A2,n2,c2,rfl,l,hl2,hC2⟩:=R8.reads hR2))
 have a:=QA (show Below w.heap.size w w2 from((Qds (Below.refl _ _)).trans hb1).trans (Qlf hb2 hb1.size));have HI2:=QA (HI.out.kept a.out);have hR2':R8 w2 w1.heap.size (.slice A2 n2 c2) F:=by rw[HF.out,← hn.out];exact hR2
 have hC2':Kd.C (Kd.int .u8) w2 A2 n2 F:=by
  have h:=Kd.R_reads' hR2';rw[h.1];exact h.2.2
 have d:n2=F.length:=(Kd.R_reads' hR2').1;have m:=QA hC2';have HN2:=QA d;have hz2:b≤w2.heap.size:=Nat.le_trans hbw a.out.size;clear hR1 hb1 hR2 hb2 hv1 hv2 l hC2 i0 i1 i2 i3 i4 i5 i6 d0 d1 d2 d3 d4 d5 d6 g0 g1 g2 g3 g4 g5 g6 hR2' hC2' d
 go_wp2_with (first
  |(go_at_call 29;refine(Qrj b g R fr tb w2 HI2.out (by omega)).mono ?_;rintro e w3 ⟨v3,rfl,hR3,hb3⟩;have o:=QA (Kd.C_below m.out hb3))
  |(at_builtin;go_loud (refine Kd.R_append_rows (Kd.int .u8) (Rr:=fun x cs=>cs=[.int .u8 x]) (w0:=w3) w2.heap.size rfl (.tmp 33) (.tmp 34) 52 5 (.int .u8 0) 1 rfl Tryz.underlying52 Qkd rfl (by decide) (by omega) v3 fr F A2 n2 c2 (fun _=>True) (fun _=>False) rfl rfl hR3 o.out (fun _ _ h=>h) (fun _ hk=>hk.elim) (fun _ _=>trivial) (Below.refl _ _) hb3.size ?bL ?_;(case bL=>have:=HN2.out;omega);intro v4 w4 hR4 hb4 p hat4))
  |(go_at_call 69;go_loud (refine(Qrk b w2.heap.size g R fr tb (fr++F) v4 sz w4 (HI2.out.kept (hb3.trans hb4)) hR4 (Nat.le_trans hb3.size hb4.size) HSZ.out (by rw[List.length_append];exact hle) hs2).mono ?_;rintro e w5 ⟨v5,rfl,hR5,hb5⟩)))
 refine bodyPost_ret (results_tmp2 rfl _ _ _) rfl ?_;refine⟨v5,rfl,?_,?_⟩
 ·exact R8.low hR5 a.out.size
 ·exact a.out.trans (Qlf ((hb3.trans hb4).trans hb5) a.out.size)
end Go.Proofs.YtnnofopfbeklbaaGreat.C
end
