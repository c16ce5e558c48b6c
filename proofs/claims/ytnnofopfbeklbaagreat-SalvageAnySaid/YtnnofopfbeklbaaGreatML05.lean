/- Merged texts. -/
import Derived.Test.YtnnofopfbeklbaaGreatML01
import Derived.WalkLawsBesides
import Derived.Defers
import Derived.Deep.RegionLaw
import Derived.Test.YtnnofopfbeklbaaGreatML04
import Derived.Recover
import Derived.LaidEqlPtr
import Derived.Test.YtnnofopfbeklbaaGreatML03
import Derived.Lib.MakeNoZero
import Derived.Laws.CopyOwn
import Derived.Laws.MathBits
import Derived.Test.YtnnofopfbeklbaaGreatML02
set_option linter.unusedVariables false
set_option linter.unusedSimpArgs false
set_option maxHeartbeats 8000000
set_option maxRecDepth 100000
section
namespace Go.Proofs.YtnnofopfbeklbaaGreat.C
open Go.RowKit Go.Proofs.YtnnofopfbeklbaaGreatW.PrintWords Go.Proofs.YtnnofopfbeklbaaGreatW.PrintLast Go.Proofs.YtnnofopfbeklbaaGreatW.PrintMore
abbrev KS:=Int × Int × Int × Int
abbrev Ck:=Int × Int × Int
def cutO(K:KS)(x:Int):List Ck:=if x=0 then [(K.2.1,K.2.2.2,K.2.2.1)]else []
def cutF(K:KS)(x:Int):KS:=(K.1,K.2.1,K.2.2.1+1,if x=0 then K.2.2.1+1 else K.2.2.2)
def cutN(K:KS)(x:Int):KS:=if K.2.2.1+1=K.1 then(K.1,(K.2.1+1)%18446744073709551616,0,0)else cutF K x
def cutA:KS→List Int→List Ck × KS
 | K,[]=>([],K)
 | K,x :: l=>(cutO K x++(cutA (cutN K x) l).1,(cutA (cutN K x) l).2)
def kCk:Kd Ck:=Kd.pair (Kd.int .u64) (Kd.pair (Kd.int .i64) (Kd.int .i64))
theorem kCk_mkM(w:World)(base:Nat)(ok:Nat→Prop)(x:Ck):kCk.M w base ok x [.int .u64 x.1,.int .i64 x.2.1,.int .i64 x.2.2]:=⟨[.int .u64 x.1],[.int .i64 x.2.1,.int .i64 x.2.2],rfl,rfl,⟨[.int .i64 x.2.1],[.int .i64 x.2.2],rfl,rfl,rfl⟩⟩
theorem Qoz{w:World}{x:Ck}{cs:List Value}(h:kCk.K w x cs):cs=[.int .u64 x.1,.int .i64 x.2.1,.int .i64 x.2.2]:=by
 obtain⟨_,_,rfl,rfl,⟨_,_,rfl,rfl,rfl⟩⟩:=h;exact rfl
def RCk(W:World)(b:Nat)(v:Value)(xs:List Ck):Prop:=kCk.R 219 W b (fun _=>True) v xs
def IsK(W:World)(g:Nat)(K:KS):Prop:=W.heap[g]? = some (.cells #[.int .i64 K.1,.int .u64 K.2.1,.int .i64 K.2.2.1,.int .i64 K.2.2.2] 271 (0,0))
def KT(W W':World):Prop:=∀(k:Nat) (cs:Array Value) (t:TypeId),W.heap[k]? = some (.cells cs t (0,0))→t≠271→t≠219→W'.heap[k]? = some (.cells cs t (0,0))
theorem KT.refl(W:World):KT W W:=fun _ _ _ h _ _=>h
theorem KT.trans{a b c:World}(h:KT a b)(k:KT b c):KT a c:=fun _ _ _ h1 h2 h3=>k _ _ _ (h _ _ _ h1 h2 h3) h2 h3
theorem KT.below{W W':World}(h:Below W.heap.size W W'):KT W W':=fun _ _ _ h1 _ _=>Qei h1 h
theorem KT.set{W:World}{g:Nat}{cs:Array Value}(hg:W.heap[g]? = some (.cells cs 271 (0,0)))(j:Nat)(u:Value):KT W (W.setCell ⟨g,j,none⟩ u):=fun k cs' t h1 h2 _=>Qdt h1 (p:=⟨g,j,none⟩) (Qdy h1 hg h2) u
theorem KT.grown{W W':World}{b:Nat}{v:Value}{xs:List Ck}(hR:RCk W b v xs)(hg:W.grownBy W' v.ownBlock):KT W W':=fun k cs t h1 _ h3=>Qdx h1 hg (Kd.R_ne hR h1 (fun e=>h3 e.symm))
theorem IsK.cells{W:World}{g:Nat}{K:KS}(h:IsK W g K):(W.cell? ⟨g,0,none⟩=some (.int .i64 K.1)∧W.cell? ⟨g,1,none⟩=some (.int .u64 K.2.1)∧W.cell? ⟨g,2,none⟩=some (.int .i64 K.2.2.1)∧W.cell? ⟨g,3,none⟩=some (.int .i64 K.2.2.2))∧W.frozen? ⟨g,1,none⟩=false∧W.frozen? ⟨g,2,none⟩=false∧W.frozen? ⟨g,3,none⟩=false :=
 ⟨⟨(Qdv h 0).trans rfl,(Qdv h 1).trans rfl,(Qdv h 2).trans rfl,(Qdv h 3).trans rfl⟩,Qdw h 1,Qdw h 2,Qdw h 3⟩
theorem info_ck:(Tryz.prog.info? 219).map (fun i=>(i.zero,i.size,i.bytes))=some (some (.agg #[.int .u64 0,.int .i64 0,.int .i64 0]),3,24):=by kernel_rfl
structure KSt (w W:World) (b g:Nat) (K:KS) (out:List Ck) (v:Value):Prop where
  k:IsK W g K
  row:RCk W b v out
  low:Below b w W
  kt:KT w W
  bg:b≤g
theorem KSt.drewn{w W W':World}{b g:Nat}{K:KS}{out:List Ck}{v:Value}(h:KSt w W b g K out v)(hb:Below W.heap.size W W')(hbw:b≤W.heap.size):KSt w W' b g K out v :=
 ⟨Qei h.k hb,Kd.R_below h.row hb,h.low.trans (Qjp hb hbw),h.kt.trans (KT.below hb),h.bg⟩
theorem KSt.set{w W:World}{b g:Nat}{K K':KS}{out:List Ck}{v:Value}(h:KSt w W b g K out v)(j:Nat)(u:Value)(hk:IsK (W.setCell ⟨g,j,none⟩ u) g K'):KSt w (W.setCell ⟨g,j,none⟩ u) b g K' out v :=
 ⟨hk,Kd.R_set h.row h.k (by decide) j u,Qjo h.low h.bg,h.kt.trans (KT.set h.k j u),h.bg⟩
theorem KSt.app{w W W1:World}{b g:Nat}{K:KS}{out out1:List Ck}{v v1:Value}(h:KSt w W b g K out v)(hR:RCk W1 b v1 out1)(hb:Below b W W1)(hg:W.grownBy W1 v.ownBlock):KSt w W1 b g K out1 v1 :=
 ⟨Qdx h.k hg (Kd.R_ne h.row h.k (by decide)),hR,h.low.trans hb,h.kt.trans (KT.grown h.row hg),h.bg⟩
theorem cut_one(b g:Nat)(sz sg at_ fr x:Int)(out:List Ck)(v:Value)(w:World)(hS:KSt w w b g (sz,sg,at_,fr) out v)(hbw:b≤w.heap.size)(hat:0≤at_∧at_≤1000000000000)(hsg:0≤sg∧sg<18446744073709551616)(hl:out.length≤1000000000000) :
  Calls Tryz.prog 196 #[.pointer (some ⟨g,0,none⟩),.int .u8 x,v] w fun e w'=>∃v',e=.returned v'∧KSt w w' b g (cutN (sz,sg,at_,fr) x) (out++cutO (sz,sg,at_,fr) x) v':=by
 have hu:=Tryz.underlying271;have hw1:IntKind.i64.wrap (at_+1)=at_+1:=IntWalk.i64_in _ (by omega);have hw2:IntKind.u64.wrap (sg+1)=(sg+1)%18446744073709551616:=by rw[IntKind.wrap_u64]
 obtain⟨A,c,hv⟩:=Kd.R_slice hS.row;subst hv;have HS:=QA hS;clear hS
 go_enter Tryz.func196,Tryz.ntmps196
 go_upto_if 8 with fail
 go_cut [2] (fun v2 w'=>∃f,f=(if x=0 then at_+1 else fr)∧KSt w w' b g (sz,sg,at_,f) (out++cutO (sz,sg,at_,fr) x) v2∧b≤w'.heap.size)
 case first =>
  by_cases hx:x=0
  ·subst hx;obtain⟨⟨c0,c1,c2,c3⟩,f1,f2,f3⟩:=HS.out.k.cells;have d1:w.drew.cell? ⟨g,1,none⟩=some (.int .u64 sg):=c1;have d2:w.drew.cell? ⟨g,2,none⟩=some (.int .i64 at_):=c2;have d3:w.drew.cell? ⟨g,3,none⟩=some (.int .i64 fr):=c3;have HSd:=QA (HS.out.drewn (Qcx (Below.refl _ _)) hbw);clear c0 f1 f2 f3
   go_upto_region 2 with fail
   go_region_law (first
    |(refine Kd.R_append_step kCk (w0:=w.drew) b (by rfl) (.tmp 9) (.tmp 23) 217 219 (.agg #[.int .u64 0,.int .i64 0,.int .i64 0]) 24 rfl Tryz.underlying217 info_ck rfl (by decide) (by omega) (.slice A out.length c) out (sg,fr,at_) [.int .u64 sg,.int .i64 fr,.int .i64 at_] (fun _=>True) (fun _=>False) rfl ?ax ?aP (fun _ hk=>hk.elim) (fun _ _=>trivial) ?aO (Below.refl _ _) ?aS ?aL ?_;(case ax=>rfl);(case aP=>exact kCk_mkM _ _ _ (sg,fr,at_));(case aO=>exact HSd.out.row);(case aS=>exact hbw);(case aL=>omega);intro v3 w3 d hb3 h hat3;have HS3:=QA (HSd.out.app d hb3 h);obtain⟨⟨e0,e1,e2,e3⟩,g1,g2,g3⟩:=HS3.out.k.cells;have HZ3:=QA (show b≤w3.heap.size from Nat.le_trans hbw hb3.size);clear d hb3 h hat3))
   all_goals
    go_wp2
    go_meet
    case rel=>exact⟨at_+1,by simp,by(have:=HS3.out.set (K':=(sz,sg,at_,at_+1)) 3 (.int .i64 (at_+1)) (Qds HS3.out.k 3 _));exact this,by simpa [World.setCell]using HZ3.out⟩
  ·have hxb:(x == 0)=false:=beq_eq_false_iff_ne.2 hx;go_wp2
   go_meet
   case rel=>exact⟨fr,by rw[if_neg hx],by unfold cutO;rw[if_neg hx,List.append_nil];exact HS.out,hbw⟩
 case rest =>
  obtain⟨f,hf,hS2,hbw2⟩:=hcut;obtain⟨A2,c2,hv2⟩:=Kd.R_slice hS2.row;subst hv2;have HF:=QA hf;have HS2:=QA hS2;have HO:=QA (rfl:out++cutO (sz,sg,at_,fr) x=out++cutO (sz,sg,at_,fr) x);clear hf hS2;obtain⟨⟨c0,c1,j,c3⟩,f1,f2,f3⟩:=HS2.out.k.cells;obtain⟨o2,a⟩:∃o2,o2=out++cutO (sz,sg,at_,fr) x:=⟨_,rfl⟩;rw[← a]at HS2 ⊢;have l:=QA a;clear a HO;have s1:=HS2.out.set (K':=(sz,sg,at_+1,f)) 2 (.int .i64 (at_+1)) (Qds HS2.out.k 2 _);have hbs:b≤(wc.setCell ⟨g,2,none⟩ (.int .i64 (at_+1))).heap.size:=by simpa [World.setCell]using hbw2
  go_upto_region 5 with fail
  obtain⟨W1,hW1⟩:∃W1,W1=wc.setCell ⟨g,2,none⟩ (.int .i64 (at_+1)):=⟨_,rfl⟩;rw[← hW1]at s1 hbs ⊢;clear hW1 c0 c1 j c3 f1 f2 f3;have S1:=QA (s1.drewn (Qcx (Below.refl _ _)) hbs);obtain⟨⟨c0,c1,j,c3⟩,f1,f2,f3⟩:=s1.k.cells;obtain⟨⟨d0,d1,d2,d3⟩,e1,e2,e3⟩:=S1.out.k.cells;clear s1
  by_cases hq:at_+1=sz
  ·have hqb:(at_+1 == sz)=true:=beq_iff_eq.2 hq;have t1:=S1.out.set (K':=(sz,(sg+1)%18446744073709551616,at_+1,f)) 1 (.int .u64 ((sg+1)%18446744073709551616)) (Qds S1.out.k 1 _);have t2:=t1.set (K':=(sz,(sg+1)%18446744073709551616,0,f)) 2 (.int .i64 0) (Qds t1.k 2 _);have t3:=t2.set (K':=(sz,(sg+1)%18446744073709551616,0,0)) 3 (.int .i64 0) (Qds t2.k 3 _);have T3:=QA t3;obtain⟨⟨p0,p1,p2,p3⟩,q1,q2,q3⟩:=t1.k.cells;obtain⟨⟨r0,r1,r2,r3⟩,u1,u2,u3⟩:=t2.k.cells;clear t1 t2 t3
   go_region
   all_goals
    go_wp2;go_ret
    refine⟨_,rfl,?_⟩;rw[← l.out];unfold cutN;rw[if_pos hq];exact T3.out
  ·have hqb:(at_+1 == sz)=false:=beq_eq_false_iff_ne.2 hq
   go_region
   all_goals
    go_wp2;go_ret
    refine⟨_,rfl,?_⟩;rw[← l.out];unfold cutN cutF;rw[if_neg hq];dsimp only;rw[← HF.out];exact S1.out
theorem cutN_at{K:KS}{x:Int}{m:Int}(h:0≤K.2.2.1∧K.2.2.1≤m)(hs:0≤K.2.1∧K.2.1<18446744073709551616):(0≤(cutN K x).2.2.1∧(cutN K x).2.2.1≤m+1)∧0≤(cutN K x).2.1∧(cutN K x).2.1<18446744073709551616:=by
 unfold cutN cutF;split
 ·dsimp only;omega
 ·dsimp only;omega
theorem Qpa(K:KS)(x:Int):(cutO K x).length≤1:=by
 unfold cutO;split<;>simp
theorem Qpb(b g:Nat)(K:KS)(A:Option Addr)(c:Nat)(l:List Int)(w:World)(hK:IsK w g K)(hbg:b≤g)(hbw:b≤w.heap.size)(hC:∀W,Below b w W→Kd.C (Kd.int .u8) W A l.length l)(hl:l.length≤1000000)(hat:0≤K.2.2.1∧K.2.2.1≤1000000000)(hsg:0≤K.2.1∧K.2.1<18446744073709551616) :
  Calls Tryz.prog 144 #[.pointer (some ⟨g,0,none⟩),.slice A l.length c] w fun e w'=>∃v',e=.returned v'∧KSt w w' b g (cutA K l).2 (cutA K l).1 v':=by
 have HC:=QA hC;have HS:=QA (show KSt w w b g K [] (.slice none 0 0) from⟨hK,Kd.R_nil _ _ _ _ _,Below.refl _ _,KT.refl _,hbg⟩);have HAT:=QA (And.intro hat hsg);obtain⟨R,hR⟩:∃R,R=cutA K l:=⟨_,rfl⟩;rw[← hR];have HR:=QA hR;clear hC hK hat hsg hR
 go_enter Tryz.func144,Tryz.ntmps144
 go_wp2_with fail
 go_loopw [5,7,10] (fun v5 v7 a wr=>∃(i:Nat) (iv:Int) (K':KS) (out:List Ck),a=.int .i64 iv∧i≤l.length∧Aside0 (iv=(i:Int))∧Aside0 (R=(out++(cutA K' (l.drop i)).1,(cutA K' (l.drop i)).2))∧Aside0 ((0≤K'.2.2.1∧K'.2.2.1≤1000000000+(i:Int))∧(0≤K'.2.1∧K'.2.1<18446744073709551616)∧out.length≤i)∧Aside0 (KSt w wr b g K' out v5))
  (fun _ _ a _=>l.length-(intOf a).toNat)
 case atStart=>exact⟨0,0,K,[],rfl,Nat.zero_le _,⟨rfl⟩,⟨by rw[HR.out,List.drop_zero,List.nil_append]⟩,⟨by have:=HAT.out;exact⟨by omega,this.2,Nat.zero_le _⟩⟩,HS⟩
 case round =>
  clear HS HAT HR;obtain⟨i,iv,K',out,rfl,hi,HI,HA,HB,HSr⟩:=hrel
  by_cases hlt:i<l.length
  ·have hge:0≤iv:=by have:=HI.out;omega
   have hl2:iv<(l.length:Int):=by have:=HI.out;omega
   have hwi:IntKind.i64.wrap (iv+1)=iv+1:=IntWalk.i64_in _ (by omega);obtain⟨ad,hA3,d⟩:=Kd.at_int (HC.out _ HSr.out.low) iv hge hl2;obtain⟨x,hx⟩:∃x,x=YtnnofopfbeklbaaGreatW.PrintWords.rd l iv:=⟨_,rfl⟩;rw[← hx]at d;have HX:=QA hx;have HAD:=QA hA3;clear hx hA3;obtain⟨sz,sg,at_,fr⟩:=K';have hA4:=HAD.out;subst hA4
   go_wp2_with (go_at_call 196;refine(cut_one b g sz sg at_ fr x out _ _ ⟨HSr.out.k,HSr.out.row,Below.refl _ _,KT.refl _,HSr.out.bg⟩ (Nat.le_trans hbw HSr.out.low.size) (by have:=HB.out.1;dsimp only at this;omega) (by have:=HB.out.2.1;exact this) (by have:=HB.out.2.2;omega)).mono ?_;rintro ee w2 ⟨v2,rfl,h2⟩;have HS2:=QA (show KSt w w2 b g (cutN (sz,sg,at_,fr) x) (out++cutO (sz,sg,at_,fr) x) v2 from⟨h2.k,h2.row,HSr.out.low.trans h2.low,HSr.out.kt.trans h2.kt,h2.bg⟩);clear h2)
   go_roundw
   case rel =>
    refine⟨i+1,iv+1,cutN (sz,sg,at_,fr) x,out++cutO (sz,sg,at_,fr) x,rfl,hlt,⟨by have:=HI.out;omega⟩,⟨?_⟩,⟨?_⟩,HS2⟩
    ·have e1:iv=(i:Int):=HI.out;have e2:l.drop i=x :: l.drop (i+1):=by
      rw[HX.out,e1,List.drop_eq_getElem_cons hlt];simp[YtnnofopfbeklbaaGreatW.PrintWords.rd,List.getD_eq_getElem?_getD,List.getElem?_eq_getElem hlt]
     rw[HA.out,e2];simp only[cutA,List.append_assoc]
    ·have h3:=cutN_at (K:=(sz,sg,at_,fr)) (x:=x) HB.out.1 HB.out.2.1;have h4:=Qpa (sz,sg,at_,fr) x;have h5:=HB.out.2.2;refine⟨by have:=h3.1;omega,h3.2,by rw[List.length_append];omega⟩
   case measure=>have:=HI.out;simp[intOf];omega
  ·obtain rfl:i=l.length:=by omega
   have e1:iv=_:=HI.out;subst e1;have hA:=HA.out;rw[List.drop_of_length_le (Nat.le_refl _)]at hA;have HA2:=QA hA;clear hA HA;go_wp2;go_ret
   refine⟨_,rfl,?_⟩;rw[HA2.out];simp only[cutA,List.append_nil];exact HSr.out
def IsCur(W:World)(b g:Nat)(bs:List Int)(i:Int):Prop:=∃v,W.heap[g]? = some (.cells #[v,.int .i64 i,.bool true] 264 (0,0))∧R8 W b v bs
def Qpc(g:Nat)(e:Int):PanicEntry:={ v:=.iface 266 (.agg #[.pointer (some ⟨g,0,none⟩),.int .i64 e]),recovered:=false }
theorem IsCur.kept{W W':World}{b g:Nat}{bs:List Int}{i:Int}(h:IsCur W b g bs i)(hb:Below W.heap.size W W'):IsCur W' b g bs i:=by
 obtain⟨v,h1,h2⟩:=h;exact⟨v,Qei h1 hb,h2.kept hb⟩
theorem IsCur.lt{W:World}{b g:Nat}{bs:List Int}{i:Int}(h:IsCur W b g bs i):g<W.heap.size:=by
 obtain⟨v,h1,h2⟩:=h;exact Qdu h1
theorem IsCur.cells{W:World}{b g:Nat}{bs:List Int}{i:Int}(h:IsCur W b g bs i):∃A c,W.cell? ⟨g,0,none⟩=some (.slice A bs.length c)∧W.cell? ⟨g,1,none⟩=some (.int .i64 i)∧W.cell? ⟨g,2,none⟩=some (.bool true)∧W.frozen? ⟨g,1,none⟩=false∧Kd.C (Kd.int .u8) W A bs.length bs∧bs.length≤c:=by
 obtain⟨v,h1,h2⟩:=h;obtain⟨A,c,rfl⟩:=Kd.R_slice h2;exact⟨A,c,(Qdv h1 0).trans rfl,(Qdv h1 1).trans rfl,(Qdv h1 2).trans rfl,Qdw h1 1,(Kd.R_reads' h2).2.2,(Kd.R_reads' h2).2.1⟩
theorem IsCur.move{W:World}{b g:Nat}{bs:List Int}{i:Int}(h:IsCur W b g bs i)(hbg:b≤g)(j:Int):IsCur (W.setCell ⟨g,1,none⟩ (.int .i64 j)) b g bs j∧Bw b g W (W.setCell ⟨g,1,none⟩ (.int .i64 j)):=by
 obtain⟨v,h1,h2⟩:=h;exact⟨⟨v,Qds h1 1 _,h2.set h1 (by decide) 1 _⟩,Qjo (Below.refl _ _) hbg,fun k cs t h3 h4 h5=>Qdt h3 h5 _⟩
theorem Qpd(b g:Nat)(bs:List Int)(i:Int)(w:World)(hI:IsCur w b g bs i) :
  Calls Tryz.prog 191 #[.pointer (some ⟨g,0,none⟩)] w fun e w'=>e=.returned (.bool false)∧w'=w:=by
 obtain⟨A,c,h0,h1,h2,h3,h4,h5⟩:=hI.cells;clear hI;have hu:=Tryz.underlying264
 go_enter Tryz.func191,Tryz.ntmps191
 go_wp2;go_ret
 exact⟨rfl,rfl⟩
theorem Qpe(b g:Nat)(bs:List Int)(i er:Int)(he:er≠0)(w:World)(hI:IsCur w b g bs i) :
  Calls Tryz.prog 175 #[.pointer (some ⟨g,0,none⟩),.int .i64 er] w fun e w'=>e=.panicked [Qpc g er]∧w'=w:=by
 have HI:=QA hI;clear hI;have hu:=Tryz.underlying264;have hne:(er != 0)=true:=bne_iff_ne.2 he
 go_enter Tryz.func175,Tryz.ntmps175
 go_wp2_with (go_at_call 191;refine(Qpd b g bs i _ HI.out).mono ?_;rintro ee wa ⟨rfl,rfl⟩)
 exact⟨rfl,rfl,rfl⟩
theorem Qpf(b g:Nat)(bs:List Int)(i n:Int)(hn:0<n)(hi:0≤i∧i≤bs.length)(hl:bs.length≤140737488355328)(hs:(bs.length:Int)-i<n)(w:World)(hI:IsCur w b g bs i) :
  Calls Tryz.prog 193 #[.pointer (some ⟨g,0,none⟩),.int .i64 n] w fun e w'=>e=.panicked [Qpc g 2]∧Below w.heap.size w w':=by
 have HI:=QA hI;obtain⟨A,c,h0,h1,h2,h3,h4,h5⟩:=hI.cells;clear hI h4;have hu:=Tryz.underlying264;have hb0:decide (n≤0)=false:=decide_eq_false (by omega);have hw1:IntKind.i64.wrap ((bs.length:Int)-i)=(bs.length:Int)-i:=IntWalk.i64_in _ (by omega);have hb1:decide ((bs.length:Int)-i<n)=true:=decide_eq_true hs
 go_enter Tryz.func193,Tryz.ntmps193
 go_upto_region 3 with(go_at_call 191;refine(Qpd b g bs i _ HI.out).mono ?_;rintro ee wa ⟨rfl,rfl⟩)
 have q0:=Qda (Qcx (Below.refl _ _)) h0;have q1:=Qda (Qcx (Below.refl _ _)) h1
 go_region
 go_wp2_with (go_at_call 175;refine(Qpe b g bs i 2 (by decide) _ (HI.out.kept (Qcx (Below.refl _ _)))).mono ?_;rintro ee wa ⟨rfl,rfl⟩)
 exact⟨rfl,rfl,Qcx (Below.refl _ _)⟩
theorem Qpg(b g:Nat)(bs:List Int)(i n:Int)(hn:n≤0)(w:World)(hI:IsCur w b g bs i) :
  Calls Tryz.prog 193 #[.pointer (some ⟨g,0,none⟩),.int .i64 n] w fun e w'=>e=.returned (.slice none 0 0)∧w'=w:=by
 have HI:=QA hI;clear hI;have hb0:decide (n≤0)=true:=decide_eq_true hn
 go_enter Tryz.func193,Tryz.ntmps193
 go_wp2_with (go_at_call 191;refine(Qpd b g bs i _ HI.out).mono ?_;rintro ee wa ⟨rfl,rfl⟩)
 go_ret
 exact⟨rfl,rfl⟩
def K8(w w':World):Prop:=∀(b:Nat) (v:Value) (ys:List Int),R8 w b v ys→R8 w' b v ys
theorem K8.move{W:World}{b g:Nat}{bs:List Int}{i:Int}(h:IsCur W b g bs i)(j:Int){w':World}(hb:Below W.heap.size (W.setCell ⟨g,1,none⟩ (.int .i64 j)) w'):K8 W w':=by
 intro b' v' ys hR;obtain⟨v,h1,_⟩:=h;exact R8.kept (R8.set hR h1 (by decide) 1 _) (by simpa [World.setCell]using hb)
theorem Qph(b g:Nat)(bs xs:List Int)(i n:Int)(hxs:xs=(bs.drop i.toNat).take n.toNat)(hn:0<n)(hi:0≤i)(hl:bs.length≤140737488355328)(hs:i+n≤(bs.length:Int))(hbg:b≤g)(w:World)(hbw:b≤w.heap.size)(hI:IsCur w b g bs i) :
  Calls Tryz.prog 193 #[.pointer (some ⟨g,0,none⟩),.int .i64 n] w fun e w'=>∃v,e=.returned v∧R8 w' w.heap.size v xs∧IsCur w' b g bs (i+n)∧Bw b g w w'∧K8 w w':=by
 have HI:=QA hI;obtain⟨A,c,h0,h1,h2,h3,h4,h5⟩:=hI.cells;clear hI h4;have hu:=Tryz.underlying264;have hb0:decide (n≤0)=false:=decide_eq_false (by omega);have hw1:IntKind.i64.wrap ((bs.length:Int)-i)=(bs.length:Int)-i:=IntWalk.i64_in _ (by omega);have hw2:IntKind.i64.wrap (i+n)=i+n:=IntWalk.i64_in _ (by omega);have hw3:IntKind.i64.wrap (i+n-n)=i:=by rw[show i+n-n=i by omega];exact IntWalk.i64_in _ (by omega)
 have hw4:IntKind.i64.wrap i=i:=IntWalk.i64_in _ (by omega);have hb1:decide ((bs.length:Int)-i<n)=false:=decide_eq_false (by omega)
 go_enter Tryz.func193,Tryz.ntmps193
 go_upto_region 3 with(go_at_call 191;refine(Qpd b g bs i _ HI.out).mono ?_;rintro ee wa ⟨rfl,rfl⟩)
 have q0:=Qda (Qcx (Below.refl _ _)) h0;have q1:=Qda (Qcx (Below.refl _ _)) h1;have q3:wa.drew.frozen? ⟨g,1,none⟩=false:=h3;clear h0 h1 h2 h3;have HI1:=QA (HI.out.kept (Qcx (Below.refl _ _)))
 go_region
 go_upto_region 6 with fail
 clear HI1 q0 q1 q3;obtain⟨m1,m2⟩:=HI.out.move hbg (i+n);have M1:=QA (m1.kept (Qcx (Below.refl _ _)));have M2:=QA (m2.trans (Bw.below (Qcx (Below.refl _ _)) (Nat.le_trans hbw m2.size)));clear m1 m2;obtain⟨W2,hW2⟩:∃W2,W2=(wa.setCell ⟨g,1,none⟩ (.int .i64 (i+n))).drew:=⟨_,rfl⟩;have hk8:Below wa.heap.size (wa.setCell ⟨g,1,none⟩ (.int .i64 (i+n))) W2:=by rw[hW2];exact Qcx (Below.refl _ _)
 have HK8:=QA (fun w' (hb:Below W2.heap.size W2 w')=>K8.move HI.out (i+n) (hk8.trans (Qjp hb (by have:=hk8.size;simpa [World.setCell]using this))));clear hk8;rw[← hW2]at M1 M2 ⊢;obtain⟨A2,c2,r0,r1,r2,r3,r4,r5⟩:=M1.out.cells;clear hW2 r2 r3;have hmid:(bs.take (i+n).toNat).drop i.toNat=xs:=by rw[hxs,List.drop_take,show(i+n).toNat-i.toNat=n.toNat by omega]
 have hxl:xs.length=n.toNat:=by rw[hxs,List.length_take,List.length_drop];omega
 obtain⟨i0,hii,_,hsz,_⟩:=info_parts Qiq;have hcut:=Qfg (P:=Tryz.prog) 52 5 .i64 .i64 Tryz.underlying52 hii 1 hsz A2 bs.length c2 i (i+n) hi (by omega) (by omega) r5;have hC:=Kd.C_mid (lo:=i.toNat) (hi:=(i+n).toNat) r4 (by omega) (by omega) r5;rw[hmid]at hC;obtain⟨A3,hA3⟩:∃A3,A3=(if c2=i.toNat then A2 else A2.map (·.add (i.toNat*1))):=⟨_,rfl⟩;obtain⟨c3,hc3⟩:∃c3,c3=c2-i.toNat:=⟨_,rfl⟩;rw[← hA3,← hc3,show(i+n).toNat-i.toNat=xs.length by omega]at hcut;have hC3:Kd.C (Kd.int .u8) W2 A3 xs.length xs:=by rw[hA3];exact hC
 have d:=QA hC3;have hxl2:xs.length≤140737488355328:=by omega
 obtain⟨j,hj⟩:∃j,j=i+n:=⟨_,rfl⟩;have hw5:IntKind.i64.wrap (j-n)=i:=by rw[hj];exact hw3
 rw[← hj]at hcut r1 M1 ⊢;have HJ:=QA hj;clear hj hC hC3 hA3 hmid r4 hc3 r5 hxs hxl;refine Qge (n:=17) (S:=fun w'=>w'.cell? ⟨g,0,none⟩=some (.slice A2 bs.length c2)∧w'.cell? ⟨g,1,none⟩=some (.int .i64 j)) (ds:=[]) (bm 17 0) qq_7 rfl rfl ⟨(Qda (Qcx (Below.refl _ _)) r0),(Qda (Qcx (Below.refl _ _)) r1)⟩ (fun a=>?_);refine pz_ (i:=0) (N:=some 33) (bm 17 1) qq_7 ?_;refine pz_ (i:=1) (N:=some 34) (bm 17 3) qq_7 ?_;refine pz_ (i:=2) (N:=some 35) (bm 17 7) qq_7 ?_;refine pz_ (i:=4) (N:=some 37) (bm 17 23) qq_7 ?_;refine pz_ (i:=5) (N:=some 38) (bm 17 55) qq_7 ?_;refine pz_ (i:=6) (N:=some 39) (bm 17 119) qq_7 ?_;refine pz_ (i:=8) (N:=some 41) (bm 17 375) qq_7 ?_;refine pz_ (i:=10) (N:=some 43) (bm 17 1399) qq_7 ?_;refine pz_ (i:=11) (N:=some 44) (bm 17 3447) qq_7 ?_;refine pz_ (i:=12) (N:=some 45) (bm 17 7543) qq_7 ?_;refine tz_ (i:=3) (N:=some 36) (bm 17 7551) qq_7 a ?_;refine tz_ (i:=7) (N:=some 40) (bm 17 7679) qq_7 a ?_;refine pz_ (i:=9) (N:=some 42) (bm 17 8191) qq_7 ?_;refine tz_ (i:=13) (N:=some 46) (bm 17 16383) qq_7 a ?_;refine pz_ (i:=14) (N:=some 47) (bm 17 32767) qq_7 ?_;refine one_ (i:=15) (N:=some 48) (bm 17 65535) rfl rfl qq_7 (by decide) (fun K hK=>?_);refine Qgl Tryz.func70 qq_7 rfl #[.slice A3 xs.length c3] (by rfl) rfl rfl (by simp only[List.map_toArray,List.map_cons,List.map_nil];rfl) ?_;with_reducible refine(Qjq A3 c3 xs _ (Kd.C_below d.out (Qcx (Below.refl _ _))) hxl2).mono ?_
 rintro ee w3 ⟨v,rfl,hR,hb⟩;refine⟨_,rfl,?_⟩;refine hK.out _ _ ⟨(Qda hb a.1),(Qda hb a.2)⟩ (fun a=>?_);clear hK K;refine nzp_ 48 ?_;refine pz_ (i:=16) (N:=some 4) (bm 17 131071) qq_7 ?_;refine Qgh qq_7 ?_;go_wp2;go_ret
 have hb2:Below W2.heap.size W2 w3:=(Qcx (Below.refl _ _)).trans hb;exact⟨v,rfl,R8.low hR (show wa.heap.size≤W2.drew.heap.size from M2.out.size),HJ.out ▸ M1.out.kept hb2,M2.out.trans (Bw.below hb2 (Nat.le_trans hbw M2.out.size)),HK8.out _ hb2⟩
theorem Qpi(b g:Nat)(bs xs:List Int)(i n:Int)(hxs:xs=(bs.drop i.toNat).take n.toNat)(hn:0<n)(hi:0≤i)(hl:bs.length≤140737488355328)(hs:i+n≤(bs.length:Int))(hbg:b≤g)(w:World)(hbw:b≤w.heap.size)(hI:IsCur w b g bs i) :
  Calls Tryz.prog 193 #[.pointer (some ⟨g,0,none⟩),.int .i64 n] w fun e w'=>∃v,e=.returned v∧R8 w' w.heap.size v xs∧IsCur w' b g bs (i+n)∧Bw b g w w' :=
 (Qph b g bs xs i n hxs hn hi hl hs hbg w hbw hI).mono (by rintro e w' ⟨v,h1,h2,h3,h4,_⟩;exact⟨v,h1,h2,h3,h4⟩)
theorem Qpj(k b g:Nat)(bs xs:List Int)(i n x:Int)(hxs:xs=(bs.drop i.toNat).take n.toNat)(hn:0<n)(hi:0≤i)(hl:bs.length≤140737488355328)(hs:i+n≤(bs.length:Int))(hbg:b≤g)(m:xs.length≤8)
  (h:Qcu.l0 k xs 0 (xs.length:Int) 0=some x) (w:World) (hbw:b≤w.heap.size) (hI:IsCur w b g bs i) :
  Calls Tryz.prog 219 #[.pointer (some ⟨g,0,none⟩),.int .i64 n] w fun e w'=>e=.returned (.int .u64 x)∧IsCur w' b g bs (i+n)∧Bw b g w w'∧K8 w w':=by
 have HI:=QA hI;have H0:=QA h;have HX:=QA hxs;clear hI h hxs
 go_enter Tryz.func219,Tryz.ntmps219
 go_wp2_with (go_at_call 193;refine(Qph b g bs xs i n HX.out hn hi hl hs hbg _ hbw HI.out).mono ?_;rintro ee w1 ⟨v,rfl,hR,hI1,hB1,hK1⟩;(have HK1:=QA hK1;clear hK1;obtain⟨A,c,hv⟩:=Kd.R_slice hR;subst hv;have HI1:=QA hI1;have d:=QA hB1;have j:=QA (Kd.R_reads' hR).2.2;clear hI1 hB1 hR))
 go_loopw [5,12] (fun v5 a wr=>∃(x5 x8:Int) (gk:Nat),v5=.int .u64 x5∧a=.int .i64 x8∧Aside0 (Qcu.l0 gk xs x5 (xs.length:Int) x8=some x)∧Aside0 (0≤x8∧x8≤(xs.length:Int))∧wr=w1)
  (fun _ a _=>xs.length-(intOf a).toNat)
 case atStart=>exact⟨0,0,k,rfl,rfl,H0,⟨by omega⟩,rfl⟩
 case round =>
  obtain⟨x5,x8,gk,rfl,rfl,HA,HK,rfl⟩:=hrel
  cases gk with
  | zero=>exact absurd HA.out (by simp[Qcu.l0])
  | succ k1 =>
   have H:=HA.out;clear HA;simp only[Qcu.l0]at H;have p0:0≤x8:=HK.out.1
   by_cases c3:x8<(xs.length:Int)
   ·have hw8:IntKind.i64.wrap (8*x8)=8*x8:=IntWalk.i64_in _ (by omega);have hw9:wrap64 (8*x8)=8*x8:=by unfold wrap64;omega
    have hw1:IntKind.i64.wrap (x8+1)=x8+1:=IntWalk.i64_in _ (by omega);have hw2:wrap64 (x8+1)=x8+1:=by unfold wrap64;omega
    rw[if_pos c3,if_pos p0,if_pos c3,hw9,if_pos (by omega),hw2]at H;have l:decide (x8<(xs.length:Int))=true:=decide_eq_true c3;obtain⟨j6,hj6⟩:∃j6:Int,8*x8=j6:=⟨_,rfl⟩;rw[hj6]at hw8 H;have hj60:0≤j6:=by omega
    obtain⟨j8,hj8⟩:∃j8:Int,(shl .u64 (IntKind.u64.wrap (YtnnofopfbeklbaaGreatW.PrintWords.rd xs x8)) j6)=j8:=⟨_,rfl⟩;rw[hj8]at H;have hj8_:(IntKind.u64.wrap ((IntKind.u64.wrap (YtnnofopfbeklbaaGreatW.PrintWords.rd xs x8))*2^min j6.toNat 64))=j8:=hj8;have hj8z:j6≤64→(IntKind.u64.wrap ((IntKind.u64.wrap (YtnnofopfbeklbaaGreatW.PrintWords.rd xs x8))*2^j6.toNat))=j8:=Qil hj8;have H':=QA H;have HJ:=QA hj6;have HLT:=QA c3;obtain⟨ad,e1,o⟩:=Kd.at_int j.out x8 p0 c3;subst e1;have hw8':IntKind.i64.wrap (8*x8)=j6:=by rw[hj6];exact hw8
    clear H hj6 hj8 hw9 hw2 hw8;go_wp2
    go_roundw
    case rel=>exact⟨_,x8+1,k1,rfl,rfl,H',⟨by have:=HLT.out;have:=HK.out;omega⟩,trivial⟩
    case measure=>have h1:=HLT.out;have h2:=HK.out;simp[intOf];omega
   ·have l:decide (x8<(xs.length:Int))=false:=decide_eq_false c3;rw[if_neg c3]at H;obtain rfl:=Option.some.inj H;go_wp2;go_ret
    exact⟨rfl,HI1.out,d.out,HK1.out⟩
theorem Qpk(k b g:Nat)(bs xs:List Int)(i n x:Int)(hxs:xs=(bs.drop i.toNat).take n.toNat)(hn:0<n)(hi:0≤i)(hl:bs.length≤140737488355328)(hs:i+n≤(bs.length:Int))(hbg:b≤g)(hx8:xs.length≤8)
  (h:Qcu.l0 k xs 0 (xs.length:Int) 0=some x) (w:World) (hbw:b≤w.heap.size) (hI:IsCur w b g bs i) :
  Calls Tryz.prog 219 #[.pointer (some ⟨g,0,none⟩),.int .i64 n] w fun e w'=>e=.returned (.int .u64 x)∧IsCur w' b g bs (i+n)∧Bw b g w w':=(Qpj k b g bs xs i n x hxs hn hi hl hs hbg hx8 h w hbw hI).mono (by rintro e w' ⟨h1,h2,h3,_⟩;exact⟨h1,h2,h3⟩)
def Qpl(b g:Nat)(bs:List Int)(i er:Int)(w:World)(e:Ending)(w':World):Prop:=e=.panicked [Qpc g er]∧IsCur w' b g bs i∧Bw b g w w'
theorem Qpm(b g:Nat)(bs:List Int)(i n:Int)(hn:0<n)(hi:0≤i∧i≤bs.length)(hl:bs.length≤140737488355328)(hs:(bs.length:Int)-i<n)(w:World)(hbw:b≤w.heap.size)(hI:IsCur w b g bs i) :
  Calls Tryz.prog 219 #[.pointer (some ⟨g,0,none⟩),.int .i64 n] w (Qpl b g bs i 2 w):=by
 have HI:=QA hI;clear hI
 go_enter Tryz.func219,Tryz.ntmps219
 go_wp2_with (go_at_call 193;refine(Qpf b g bs i n hn hi hl hs _ HI.out).mono ?_;rintro ee w1 ⟨rfl,hb1⟩)
 exact⟨rfl,rfl,HI.out.kept hb1,Bw.below hb1 hbw⟩
theorem Qpn(k b g:Nat)(bs xs:List Int)(i x:Int)(hxs:xs=(bs.drop i.toNat).take 1)(hi:0≤i)(hl:bs.length≤140737488355328)(hs:i+1≤(bs.length:Int))(hbg:b≤g)
  (h:Qcu.l0 k xs 0 (xs.length:Int) 0=some x) (w:World) (hbw:b≤w.heap.size) (hI:IsCur w b g bs i) :
  Calls Tryz.prog 174 #[.pointer (some ⟨g,0,none⟩)] w fun e w'=>e=.returned (.int .u8 (IntKind.u8.wrap x))∧IsCur w' b g bs (i+1)∧Bw b g w w':=by
 have HI:=QA hI;have H0:=QA h;have HX:=QA hxs;have HL:Aside0 (xs.length≤8):=⟨by rw[hxs,List.length_take];omega⟩;clear hI h hxs
 go_enter Tryz.func174,Tryz.ntmps174
 go_wp2_with (go_at_call 219;refine(Qpk k b g bs xs i 1 x HX.out (by decide) hi hl hs hbg HL.out H0.out _ hbw HI.out).mono ?_;rintro ee w1 ⟨rfl,hI1,hB1⟩)
 go_ret
 exact⟨rfl,hI1,hB1⟩
theorem Qpo(b g:Nat)(bs:List Int)(i:Int)(hi:0≤i∧i≤bs.length)(hl:bs.length≤140737488355328)(hs:(bs.length:Int)-i<1)(w:World)(hbw:b≤w.heap.size)(hI:IsCur w b g bs i) :
  Calls Tryz.prog 174 #[.pointer (some ⟨g,0,none⟩)] w (Qpl b g bs i 2 w):=by
 have HI:=QA hI;clear hI
 go_enter Tryz.func174,Tryz.ntmps174
 go_wp2_with (go_at_call 219;refine(Qpm b g bs i 1 (by decide) hi hl hs _ hbw HI.out).mono ?_;rintro ee w1 ⟨rfl,hF⟩)
 exact⟨rfl,rfl,hF⟩
theorem Qpp(k b g:Nat)(bs xs:List Int)(i x:Int)(hxs:xs=(bs.drop i.toNat).take 8)(hi:0≤i)(hl:bs.length≤140737488355328)(hs:i+8≤(bs.length:Int))(hbg:b≤g)
  (h:Qcu.l0 k xs 0 (xs.length:Int) 0=some x) (w:World) (hbw:b≤w.heap.size) (hI:IsCur w b g bs i) :
  Calls Tryz.prog 172 #[.pointer (some ⟨g,0,none⟩)] w fun e w'=>e=.returned (.int .u64 x)∧IsCur w' b g bs (i+8)∧Bw b g w w':=by
 have HI:=QA hI;have H0:=QA h;have HX:=QA hxs;have HL:Aside0 (xs.length≤8):=⟨by rw[hxs,List.length_take];omega⟩;clear hI h hxs
 go_enter Tryz.func172,Tryz.ntmps172
 go_wp2_with (go_at_call 219;refine(Qpk k b g bs xs i 8 x HX.out (by decide) hi hl hs hbg HL.out H0.out _ hbw HI.out).mono ?_;rintro ee w1 ⟨rfl,hI1,hB1⟩)
 go_ret
 exact⟨rfl,hI1,hB1⟩
theorem Qpq(b g:Nat)(bs:List Int)(i:Int)(hi:0≤i∧i≤bs.length)(hl:bs.length≤140737488355328)(w:World)(hI:IsCur w b g bs i) :
  Calls Tryz.prog 139 #[.pointer (some ⟨g,0,none⟩)] w fun e w'=>e=.returned (.int .i64 ((bs.length:Int)-i))∧Below w.heap.size w w':=by
 have HI:=QA hI;obtain⟨A,c,h0,h1,h2,h3,h4,h5⟩:=hI.cells;clear hI h4;have hu:=Tryz.underlying264;have hw1:IntKind.i64.wrap ((bs.length:Int)-i)=(bs.length:Int)-i:=IntWalk.i64_in _ (by omega)
 go_enter Tryz.func139,Tryz.ntmps139
 go_upto_region 3 with(go_at_call 191;refine(Qpd b g bs i _ HI.out).mono ?_;rintro ee wa ⟨rfl,rfl⟩)
 have q0:=Qda (Qcx (Below.refl _ _)) h0;have q1:=Qda (Qcx (Below.refl _ _)) h1
 go_region
 go_wp2;go_ret
 exact⟨rfl,Qcx (Below.refl _ _)⟩
theorem Qpr(b g:Nat)(bs:List Int)(i:Int)(hi:0≤i∧i≤bs.length)(hl:bs.length≤140737488355328)(hs:(bs.length:Int)-i≤0)(w:World)(hbw:b≤w.heap.size)(hI:IsCur w b g bs i) :
  Calls Tryz.prog 178 #[.pointer (some ⟨g,0,none⟩)] w fun e w'=>e=.returned (.tuple #[])∧IsCur w' b g bs i∧Bw b g w w':=by
 have HI:=QA hI;clear hI;have hb0:decide (0<(bs.length:Int)-i)=false:=decide_eq_false (by omega)
 go_enter Tryz.func178,Tryz.ntmps178
 go_wp2_with (go_at_call 139;refine(Qpq b g bs i hi hl _ HI.out).mono ?_;rintro ee w1 ⟨rfl,hb1⟩)
 go_end0
 exact⟨rfl,HI.out.kept hb1,Bw.below hb1 hbw⟩
theorem Qps(b g:Nat)(bs:List Int)(i:Int)(hi:0≤i∧i≤bs.length)(hl:bs.length≤140737488355328)(hs:0<(bs.length:Int)-i)(w:World)(hbw:b≤w.heap.size)(hI:IsCur w b g bs i) :
  Calls Tryz.prog 178 #[.pointer (some ⟨g,0,none⟩)] w (Qpl b g bs i 3 w):=by
 have HI:=QA hI;clear hI;have hb0:decide (0<(bs.length:Int)-i)=true:=decide_eq_true hs
 go_enter Tryz.func178,Tryz.ntmps178
 go_wp2_with (first
  |(go_at_call 139;refine(Qpq b g bs i hi hl _ HI.out).mono ?_;rintro ee w1 ⟨rfl,hb1⟩)
  |(go_at_call 175;refine(Qpe b g bs i 3 (by decide) _ (HI.out.kept hb1)).mono ?_;rintro ee w2 ⟨rfl,rfl⟩))
 exact⟨rfl,rfl,HI.out.kept hb1,Bw.below hb1 hbw⟩
theorem Qpt{P:Program}{tp te:TypeId}{j:TypeInfo}(a:Addr)(hp:P.underlying tp=some (.pointer te))(hte:P.info? te=some j)(w:World) :
  (binOp .neq tp (.pointer (some a)) (.pointer (some a))).run P w=.ok (.bool false) w:=by
 have h:∀d:Nat,(Op.equalIn (d+1) tp (.pointer (some a)) (.pointer (some a))).run P w=.ok true w:=fun d=>by simp[Op.equalIn,run_underlying hp,sizeOf,typeInfo,hte,run_sameAddr_same]
 simp only[binOp];simp[Op.equal,Op.maxDepth,h 9999]
theorem Qpu{P:Program}{Q:Exit→Act→List Frame→World→Prop}{o:Oper}{id:Nat}{a:Act}{cs:List Frame}{w:World}(hw:Region.wanted o (yielded #[o] a.tmps)=true)(hr:(execOp a.eval o).run P w=.ok .recover w)
  (hc:recoverD cs=none) (h:Q .normal (a.put o.dst .nilIface) cs w):(Code.region id #[o] false).wpS P Q a cs w:=by
 apply wpS_region;show wpOpsS P #[o] Q [0] a cs w;simp only[wpOpsS];show(if Region.wanted o (yielded #[o] a.tmps)=true then _ else _);rw[if_pos hw];simp only[List.getElem_toArray,List.getElem_cons_zero,hr,hc];exact h
theorem Qpv{P:Program}{Q:Exit→Act→List Frame→World→Prop}{o:Oper}{id:Nat}{a:Act}{cs cs':List Frame}{v:Value}{w:World}(hw:Region.wanted o (yielded #[o] a.tmps)=true)(hr:(execOp a.eval o).run P w=.ok .recover w)
  (hc:recoverD cs=some (v,cs')) (h:Q .normal (a.put o.dst v) cs' w):(Code.region id #[o] false).wpS P Q a cs w:=by
 apply wpS_region;show wpOpsS P #[o] Q [0] a cs w;simp only[wpOpsS];show(if Region.wanted o (yielded #[o] a.tmps)=true then _ else _);rw[if_pos hw];simp only[List.getElem_toArray,List.getElem_cons_zero,hr,hc];exact h
theorem Qpw(g ba be bc:Nat)(i x:Int)(v:Value)(w:World)(h0:w.heap[bc]? = some (.cells #[.pointer (some ⟨g,0,none⟩)] 204 (0,0)))
  (h1:w.heap[g]? = some (.cells #[v,.int .i64 i,.bool true] 264 (0,0))) (h2:w.heap[ba]? = some (.cells #[.int .i64 x] 3 (0,0))) :
  CallsD Tryz.prog 190 #[.pointer (some ⟨bc,0,none⟩),.pointer (some ⟨ba,0,none⟩),.pointer (some ⟨be,0,none⟩)] .returning w fun e u' w' =>
   e=.returned (.tuple #[])∧u'=.returning∧w'=(w.setCell ⟨g,2,none⟩ (.bool false)).setCell ⟨ba,0,none⟩ (.int .i64 i):=by
 have hu:=Tryz.underlying264;have n1:bc≠g:=Qdy h0 h1 (by decide);have n2:ba≠g:=Qdy h2 h1 (by decide);have c0:w.cell? ⟨bc,0,none⟩=some (.pointer (some ⟨g,0,none⟩)):=(Qdv h0 0).trans rfl;have c1:w.frozen? ⟨g,2,none⟩=false:=Qdw h1 2;have c2:w.cell? ⟨g,2,none⟩=some (.bool true):=(Qdv h1 2).trans rfl;have k0:=Qdt h0 (p:=⟨g,2,none⟩) n1 (.bool false);have k1:=Qds h1 2 (.bool false);have k2:=Qdt h2 (p:=⟨g,2,none⟩) n2 (.bool false);obtain⟨W1,hW1⟩:∃W1,W1=w.setCell ⟨g,2,none⟩ (.bool false):=⟨_,rfl⟩;rw[← hW1]at k0 k1 k2 ⊢;refine callsD_of_wpS Tryz.func190 rfl fun c₀ cs hm=>?_
 simp only[Tryz.ntmps190,List.size_toArray,List.length_cons,List.length_nil,Nat.reduceAdd,Nat.reduceSub,Array.replicate_succ,Array.replicate_zero,List.push_toArray,List.append_toArray,List.nil_append,List.cons_append];apply wpS_seq;refine wpS_of_wp ?_;go_wp2;simp only[Exit.thenS];rw[← hW1];have d0:W1.cell? ⟨bc,0,none⟩=some (.pointer (some ⟨g,0,none⟩)):=(Qdv k0 0).trans rfl;have d1:W1.cell? ⟨g,1,none⟩=some (.int .i64 i):=(Qdv k1 1).trans rfl;have d2:W1.frozen? ⟨ba,0,none⟩=false:=Qdw k2 0;have d3:W1.cell? ⟨ba,0,none⟩=some (.int .i64 x):=(Qdv k2 0).trans rfl;clear c0 c1 c2 hW1 h0 h1 h2;apply wpS_seq;refine wpS_of_wp ?_;go_wp2;simp only[Exit.thenS];apply wpS_seq;refine Qpu rfl ?_ ?_ ?_
 ·go_simp
 ·simp[recoverD,hm]
 simp only[Exit.thenS,Act.put,List.setIfInBounds_toArray,List.set_cons_zero,List.set_cons_succ];refine wpS_of_wp ?_;go_wp2;refine⟨rfl,.returning,?_,_,results_none rfl _ _ _,rfl,rfl,rfl⟩
 cases c₀
 simp_all
theorem Qpx(g ba be bc:Nat)(i x y er:Int)(v:Value)(w:World)(h0:w.heap[bc]? = some (.cells #[.pointer (some ⟨g,0,none⟩)] 204 (0,0)))
  (h1:w.heap[g]? = some (.cells #[v,.int .i64 i,.bool true] 264 (0,0))) (h2:w.heap[ba]? = some (.cells #[.int .i64 x] 3 (0,0))) (h3:w.heap[be]? = some (.cells #[.int .i64 y] 30 (0,0))) :
  CallsD Tryz.prog 190 #[.pointer (some ⟨bc,0,none⟩),.pointer (some ⟨ba,0,none⟩),.pointer (some ⟨be,0,none⟩)] (.panicking [Qpc g er]) w fun e u' w' =>
   e=.returned (.tuple #[])∧u'=.panicking [{ Qpc g er with recovered:=true }]∧w'=((((w.setCell ⟨g,2,none⟩ (.bool false)).setCell ⟨ba,0,none⟩ (.int .i64 i)).alloc (.cells #[.pointer (some ⟨g,0,none⟩),.int .i64 er] 266)).setCell ⟨be,0,none⟩ (.int .i64 er)):=by
 have hu:=Tryz.underlying264;have hu2:=Tryz.underlying266;have hu3:=Tryz.underlying204;have n1:bc≠g:=Qdy h0 h1 (by decide);have n2:ba≠g:=Qdy h2 h1 (by decide);have n3:be≠g:=Qdy h3 h1 (by decide);have n4:bc≠ba:=Qdy h0 h2 (by decide);have n5:be≠ba:=Qdy h3 h2 (by decide);have c0:w.cell? ⟨bc,0,none⟩=some (.pointer (some ⟨g,0,none⟩)):=(Qdv h0 0).trans rfl;have c1:w.frozen? ⟨g,2,none⟩=false:=Qdw h1 2;have c2:w.cell? ⟨g,2,none⟩=some (.bool true):=(Qdv h1 2).trans rfl;have k0:=Qdt h0 (p:=⟨g,2,none⟩) n1 (.bool false);have k1:=Qds h1 2 (.bool false);have k2:=Qdt h2 (p:=⟨g,2,none⟩) n2 (.bool false);have k3:=Qdt h3 (p:=⟨g,2,none⟩) n3 (.bool false);obtain⟨W1,hW1⟩:∃W1,W1=w.setCell ⟨g,2,none⟩ (.bool false):=⟨_,rfl⟩;rw[← hW1]at k0 k1 k2 k3 ⊢;have m0:=Qdt k0 (p:=⟨ba,0,none⟩) n4 (.int .i64 i);have m3:=Qdt k3 (p:=⟨ba,0,none⟩) n5 (.int .i64 i);obtain⟨W2,hW2⟩:∃W2,W2=W1.setCell ⟨ba,0,none⟩ (.int .i64 i):=⟨_,rfl⟩;rw[← hW2]at m0 m3 ⊢;obtain⟨j9,hj9⟩:∃j,Tryz.prog.info? 264=some j:=Option.isSome_iff_exists.1 qq_7;have hnp:∀W:World,(binOp .neq 204 (.pointer (some ⟨g,0,none⟩)) (.pointer (some ⟨g,0,none⟩))).run Tryz.prog W=.ok (.bool false) W:=fun W=>Qpt ⟨g,0,none⟩ hu3 hj9 W
 clear hj9;have hta:∀W:World,(Instr.typeAssert (.iface 266 (.agg #[.pointer (some ⟨g,0,none⟩),.int .i64 er])) 20 266 true).run Tryz.prog W=.ok (.tuple #[.agg #[.pointer (some ⟨g,0,none⟩),.int .i64 er],.bool true]) W:=fun W=>by kernel_rfl
 refine callsD_of_wpS Tryz.func190 rfl fun c₀ cs hm=>?_
 simp only[Tryz.ntmps190,List.size_toArray,List.length_cons,List.length_nil,Nat.reduceAdd,Nat.reduceSub,Array.replicate_succ,Array.replicate_zero,List.push_toArray,List.append_toArray,List.nil_append,List.cons_append];apply wpS_seq;refine wpS_of_wp ?_;go_wp2;simp only[Exit.thenS];rw[← hW1];have d0:W1.cell? ⟨bc,0,none⟩=some (.pointer (some ⟨g,0,none⟩)):=(Qdv k0 0).trans rfl;have d1:W1.cell? ⟨g,1,none⟩=some (.int .i64 i):=(Qdv k1 1).trans rfl;have d2:W1.frozen? ⟨ba,0,none⟩=false:=Qdw k2 0;have d3:W1.cell? ⟨ba,0,none⟩=some (.int .i64 x):=(Qdv k2 0).trans rfl;clear c0 c1 c2 hW1 h0 h1 h2 h3;apply wpS_seq;refine wpS_of_wp ?_;go_wp2;simp only[Exit.thenS];rw[← hW2];have o0:W2.cell? ⟨bc,0,none⟩=some (.pointer (some ⟨g,0,none⟩)):=(Qdv m0 0).trans rfl;have s0:=Qef m0 (.cells #[.pointer (some ⟨g,0,none⟩),.int .i64 er] 266);have s3:=Qef m3 (.cells #[.pointer (some ⟨g,0,none⟩),.int .i64 er] 266);have s4:=Qej W2 (.cells #[.pointer (some ⟨g,0,none⟩),.int .i64 er] 266);have p0:(W2.alloc (.cells #[.pointer (some ⟨g,0,none⟩),.int .i64 er] 266)).cell? ⟨bc,0,none⟩=some (.pointer (some ⟨g,0,none⟩)):=(Qdv s0 0).trans rfl;have p1:(W2.alloc (.cells #[.pointer (some ⟨g,0,none⟩),.int .i64 er] 266)).cell? ⟨be,0,none⟩=some (.int .i64 y):=(Qdv s3 0).trans rfl;have p2:(W2.alloc (.cells #[.pointer (some ⟨g,0,none⟩),.int .i64 er] 266)).frozen? ⟨be,0,none⟩=false:=Qdw s3 0;have p3:(W2.alloc (.cells #[.pointer (some ⟨g,0,none⟩),.int .i64 er] 266)).cell? ⟨W2.heap.size,0,none⟩=some (.pointer (some ⟨g,0,none⟩)):=(Qdv s4 0).trans rfl;have p4:(W2.alloc (.cells #[.pointer (some ⟨g,0,none⟩),.int .i64 er] 266)).cell? ⟨W2.heap.size,1,none⟩=some (.int .i64 er):=(Qdv s4 1).trans rfl;clear d0 d1 d2 d3 hW2 s0 s3 s4;apply wpS_seq;refine Qpv (v:=.iface 266 (.agg #[.pointer (some ⟨g,0,none⟩),.int .i64 er])) (cs':={ c₀ with mode:=.panicking [{ Qpc g er with recovered:=true }] } :: cs) rfl ?_ ?_ ?_
 ·go_simp
 ·simp[recoverD,hm,Qpc]
 simp only[Exit.thenS,Act.put,List.setIfInBounds_toArray,List.set_cons_zero,List.set_cons_succ];refine wpS_of_wp ?_;go_wp2;refine⟨rfl,_,rfl,_,results_none rfl _ _ _,rfl,rfl,rfl⟩
def Tl(lo g:Nat)(w w':World):Prop:=∀k cs t,lo≤k→w.heap[k]? = some (.cells cs t (0,0))→t≠5→k≠g→w'.heap[k]? = some (.cells cs t (0,0))
def Ty(W W':World):Prop:=∀(k:Nat) (cs:Array Value) (t:TypeId),W.heap[k]? = some (.cells cs t (0,0))→t≠3→t≠30→t≠264→W'.heap[k]? = some (.cells cs t (0,0))
theorem Ty.set{W W1:World}(h:Ty W W1){p:Addr}{cs:Array Value}{t:TypeId}(hp:W1.heap[p.block]? = some (.cells cs t (0,0)))(ht:t=3∨t=30∨t=264)(u:Value):Ty W (W1.setCell p u):=fun k cs' t' h1 h2 h3 h4 =>
 Qdt (h k cs' t' h1 h2 h3 h4) (p:=p) (Qdy (h k cs' t' h1 h2 h3 h4) hp (by rcases ht with rfl|rfl|rfl;exact h2;exact h3;exact h4)) u
theorem Ty.refl(W:World):Ty W W:=fun _ _ _ h _ _ _=>h
theorem Ty.alloc{W W1:World}(h:Ty W W1)(o:Obj):Ty W (W1.alloc o):=fun k cs t h1 h2 h3 h4=>Qef (h k cs t h1 h2 h3 h4) o
theorem Qpy(tmps:Array Value)(W:World)(ba be:Nat)(i er:Int)(h4:tmps[4]? = some (.pointer (some ⟨ba,0,none⟩)))(h5:tmps[5]? = some (.pointer (some ⟨be,0,none⟩)))
  (c4:W.heap[ba]? = some (.cells #[.int .i64 i] 3 (0,0))) (c5:W.heap[be]? = some (.cells #[.int .i64 er] 30 (0,0))) :
  (results Tryz.f137 tmps).run Tryz.prog W=.ok (.tuple #[.int .i64 i,.int .i64 er]) W:=by
 have hr:Tryz.f137.results=#[.cell 4 3,.cell 5 30]:=rfl;have d4:W.cell? ⟨ba,0,none⟩=some (.int .i64 i):=(Qdv c4 0).trans rfl;have d5:W.cell? ⟨be,0,none⟩=some (.int .i64 er):=(Qdv c5 0).trans rfl;have hu1:=Tryz.underlying3;have hu2:=Tryz.underlying30;simp[results,hr,h4,h5,go_sem,loadVar,d4,d5,c4,c5]
theorem Qpz(F:Nat)(cap:Array Value)(A0:Option Addr)(c0:Nat)(l0:List Int)(w:World)(hr0:Kd.C (Kd.int .u8) w A0 l0.length l0)(hl:l0.length≤140737488355328)
  (hcf:∀(as_:Array Value) (W:World),(callFunc F as_).run Tryz.prog W=.ok (.enter F as_) W)
  (Post:Int→Int→World→Prop) (hst:∀er i W W',Post er i W→Below w.heap.size W W'→Ty W W'→Post er i W')
  (hrd:∀(W:World) (g:Nat),w.heap.size≤g→Below w.heap.size w W→IsCur W w.heap.size g l0 0→Calls Tryz.prog F (#[.pointer (some ⟨g,0,none⟩)]++cap) W fun e W'=>∃i,IsCur W' w.heap.size g l0 i∧Tl w.heap.size g W W' ∧
   ((e=.returned (.tuple #[])∧Post 0 i W')∨∃er,e=.panicked [Qpc g er]∧Post er i W')) :
  Calls Tryz.prog 137 #[.slice A0 l0.length c0,.func (.func F) #[] cap] w fun e w'=>∃er i,e=.returned (.tuple #[.int .i64 i,.int .i64 er])∧Post er i w':=by
 have hu:=Tryz.underlying264;have a:=QA hr0;have HRD:=QA @hrd;have HST:=QA @hst;have hmf:∀(fn:Fn) (first cap:Array Value) (w:World),(Instr.makeFunc fn first cap).run Tryz.prog w=.ok (.func fn first cap) w:=fun _ _ _ _=>rfl
 have hnil:∀W:World,(binOp .eql 209 (.func (.func F) #[] cap) .nilFunc).run Tryz.prog W=.ok (.bool false) W:=fun W=>by kernel_rfl
 clear hr0 hrd hst
 go_enter_defers Tryz.func137,Tryz.ntmps137
 go_upto_region 5 with(go_at_call 70;refine(Qjq A0 c0 l0 _ (Kd.C_below a.out (Qcw (Qcw (Below.refl _ _) _) _)) hl).mono ?_;rintro ee w3 ⟨vb,rfl,hR,hb⟩;obtain⟨A,c,hv⟩:=Kd.R_slice hR;subst hv)
 have b0:Below w.heap.size w ((w.alloc (.cells #[.int .i64 0] 3)).alloc (.cells #[.int .i64 0] 30)):=Qcw (Qcw (Below.refl _ _) _) _;have e0:((w.alloc (.cells #[.int .i64 0] 3)).alloc (.cells #[.int .i64 0] 30)).heap.size=w.heap.size+2:=by simp[World.size_alloc]
 have ka:=Qei (Qef (Qej w (.cells #[.int .i64 0] 3)) (.cells #[.int .i64 0] 30)) hb;have ke:=Qei (Qej (w.alloc (.cells #[.int .i64 0] 3)) (.cells #[.int .i64 0] 30)) hb;rw[World.size_alloc]at ke;have b3:Below w.heap.size w w3:=b0.trans (Qjp hb b0.size);have hs3:w.heap.size+2≤w3.heap.size:=by have:=hb.size;omega
 have kc:=Qef (Qej w3 (.cells #[.slice A l0.length c,.int .i64 0,.bool true] 264)) (.cells #[.pointer (some ⟨w3.heap.size,0,none⟩)] 204);have kp:=Qej (w3.alloc (.cells #[.slice A l0.length c,.int .i64 0,.bool true] 264)) (.cells #[.pointer (some ⟨w3.heap.size,0,none⟩)] 204);rw[World.size_alloc]at kp;have ka5:=Qef (Qef ka (.cells #[.slice A l0.length c,.int .i64 0,.bool true] 264)) (.cells #[.pointer (some ⟨w3.heap.size,0,none⟩)] 204);have ke5:=Qef (Qef ke (.cells #[.slice A l0.length c,.int .i64 0,.bool true] 264)) (.cells #[.pointer (some ⟨w3.heap.size,0,none⟩)] 204);have b5:Below w.heap.size w ((w3.alloc (.cells #[.slice A l0.length c,.int .i64 0,.bool true] 264)).alloc (.cells #[.pointer (some ⟨w3.heap.size,0,none⟩)] 204)):=b3.trans (Qjp (Qcw (Qcw (Below.refl _ _) _) _) b3.size);have hI5:IsCur ((w3.alloc (.cells #[.slice A l0.length c,.int .i64 0,.bool true] 264)).alloc (.cells #[.pointer (some ⟨w3.heap.size,0,none⟩)] 204)) w.heap.size w3.heap.size l0 0:=⟨_,kc,R8.low (R8.kept (R8.kept hR (Qcw (Below.refl _ _) _)) (Qcw (Below.refl _ _) _)) (by rw[e0];omega)⟩;generalize hW5:((w3.alloc (.cells #[.slice A l0.length c,.int .i64 0,.bool true] 264)).alloc (.cells #[.pointer (some ⟨w3.heap.size,0,none⟩)] 204))=W5 at *;have HI5:=QA hI5;have b:=QA b5;have p0:W5.cell? ⟨w3.heap.size+1,0,none⟩=some (.pointer (some ⟨w3.heap.size,0,none⟩)):=(Qdv kp 0).trans rfl;clear hI5 b5 hW5 ka ke b0 e0 hb hR;have ha2:w.heap.size≠w3.heap.size:=by omega
 have he2:w.heap.size+1≠w3.heap.size:=by omega
 have hea:w.heap.size+1≠w.heap.size:=by omega
 have hcg:w3.heap.size+1≠w3.heap.size:=by omega
 go_wp2_with (refine(HRD.out W5 w3.heap.size (by omega) b.out HI5.out).mono ?_;rintro ee w6 ⟨i,hI6,hT6,⟨rfl,hp6⟩ |⟨er,rfl,hp6⟩⟩<;>(obtain⟨v6,kg6,hR6⟩:=hI6;have ka6:=hT6 _ _ _ (by omega) ka5 (by decide) ha2;have ke6:=hT6 _ _ _ (by omega) ke5 (by decide) he2;have kp6:=hT6 _ _ _ (by omega) kp (by decide) hcg;have q0:w6.cell? ⟨w3.heap.size+1,0,none⟩=some (.pointer (some ⟨w3.heap.size,0,none⟩)):=(Qdv kp6 0).trans rfl;have q1:w6.cell? ⟨w3.heap.size,1,none⟩=some (.int .i64 i):=(Qdv kg6 1).trans rfl;have q2:w6.frozen? ⟨w.heap.size,0,none⟩=false:=Qdw ka6 0;have q3:w6.cell? ⟨w.heap.size,0,none⟩=some (.int .i64 0):=(Qdv ka6 0).trans rfl;have ke7:=Qdt ke6 (p:=⟨w.heap.size,0,none⟩) hea (.int .i64 i);have q4:(w6.setCell ⟨w.heap.size,0,none⟩ (.int .i64 i)).frozen? ⟨w.heap.size+1,0,none⟩=false:=Qdw ke7 0;have q5:(w6.setCell ⟨w.heap.size,0,none⟩ (.int .i64 i)).cell? ⟨w.heap.size+1,0,none⟩=some (.int .i64 0):=(Qdv ke7 0).trans rfl))
 ·have bc8:=Qdt (Qdt kp6 (p:=⟨w.heap.size,0,none⟩) (show w3.heap.size+1≠w.heap.size by omega) (.int .i64 i)) (p:=⟨w.heap.size+1,0,none⟩) (show w3.heap.size+1≠w.heap.size+1 by omega) (.int .i64 0);have g8:=Qdt (Qdt kg6 (p:=⟨w.heap.size,0,none⟩) (show w3.heap.size≠w.heap.size by omega) (.int .i64 i)) (p:=⟨w.heap.size+1,0,none⟩) (show w3.heap.size≠w.heap.size+1 by omega) (.int .i64 0);have ba8:=Qdt (Qds ka6 0 (.int .i64 i)) (p:=⟨w.heap.size+1,0,none⟩) (show w.heap.size≠w.heap.size+1 by omega) (.int .i64 0);have be8:=Qds ke7 0 (.int .i64 0);have ba9:=Qds (Qdt ba8 (p:=⟨w3.heap.size,2,none⟩) ha2 (.bool false)) 0 (.int .i64 i);have be9:=Qdt (Qdt be8 (p:=⟨w3.heap.size,2,none⟩) he2 (.bool false)) (p:=⟨w.heap.size,0,none⟩) hea (.int .i64 i);have bl:Below w.heap.size w6 (((((w6.setCell ⟨w.heap.size,0,none⟩ (.int .i64 i)).setCell ⟨w.heap.size+1,0,none⟩ (.int .i64 0)).setCell ⟨w3.heap.size,2,none⟩ (.bool false)).setCell ⟨w.heap.size,0,none⟩ (.int .i64 i))) :=
   Qjo (Qjo (Qjo (Qjo (Below.refl _ _) (Nat.le_refl _)) (Nat.le_succ _)) (by omega)) (Nat.le_refl _)
  have bt:Ty w6 (((((w6.setCell ⟨w.heap.size,0,none⟩ (.int .i64 i)).setCell ⟨w.heap.size+1,0,none⟩ (.int .i64 0)).setCell ⟨w3.heap.size,2,none⟩ (.bool false)).setCell ⟨w.heap.size,0,none⟩ (.int .i64 i))) :=
   ((((Ty.refl w6).set ka6 (.inl rfl) _).set ke7 (.inr (.inl rfl)) _).set g8 (.inr (.inr rfl)) _).set (Qdt ba8 (p:=⟨w3.heap.size,2,none⟩) ha2 (.bool false)) (.inl rfl) _
  refine leaves_cons (f:=190) (args:=#[.pointer (some ⟨w3.heap.size+1,0,none⟩),.pointer (some ⟨w.heap.size,0,none⟩),.pointer (some ⟨w.heap.size+1,0,none⟩)]) (by simp) (by simp[go_sem]) ?_;refine(Qpw w3.heap.size w.heap.size (w.heap.size+1) (w3.heap.size+1) i i v6 _ bc8 g8 ba8).mono ?_;rintro e u' w'' ⟨rfl,rfl,rfl⟩;show Leaves _ _ _ _ [] .returning _;exact⟨_,Qpy _ _ _ _ i 0 rfl rfl ba9 be9,0,i,rfl,HST.out _ _ _ _ hp6 bl bt⟩
 ·have ba9:=Qdt (Qef (Qds (Qdt ka6 (p:=⟨w3.heap.size,2,none⟩) ha2 (.bool false)) 0 (.int .i64 i)) (.cells #[.pointer (some ⟨w3.heap.size,0,none⟩),.int .i64 er] 266)) (p:=⟨w.heap.size+1,0,none⟩) (show w.heap.size≠w.heap.size+1 by omega) (.int .i64 er);have be9:=Qds (Qef (Qdt (Qdt ke6 (p:=⟨w3.heap.size,2,none⟩) he2 (.bool false)) (p:=⟨w.heap.size,0,none⟩) hea (.int .i64 i)) (.cells #[.pointer (some ⟨w3.heap.size,0,none⟩),.int .i64 er] 266)) 0 (.int .i64 er);have s6:w.heap.size≤w6.heap.size:=Nat.le_of_lt (Qdu ka6);have b1:Below w.heap.size w6 ((w6.setCell ⟨w3.heap.size,2,none⟩ (.bool false)).setCell ⟨w.heap.size,0,none⟩ (.int .i64 i)):=Qjo (Qjo (Below.refl _ _) (by omega)) (Nat.le_refl _);have bl:Below w.heap.size w6 ((((w6.setCell ⟨w3.heap.size,2,none⟩ (.bool false)).setCell ⟨w.heap.size,0,none⟩ (.int .i64 i)).alloc (.cells #[.pointer (some ⟨w3.heap.size,0,none⟩),.int .i64 er] 266)).setCell ⟨w.heap.size+1,0,none⟩ (.int .i64 er)) :=
   Qjo (b1.trans (Qjp (Qcw (Below.refl _ _) _) (Nat.le_trans s6 b1.size))) (Nat.le_succ _)
  have bt:Ty w6 ((((w6.setCell ⟨w3.heap.size,2,none⟩ (.bool false)).setCell ⟨w.heap.size,0,none⟩ (.int .i64 i)).alloc (.cells #[.pointer (some ⟨w3.heap.size,0,none⟩),.int .i64 er] 266)).setCell ⟨w.heap.size+1,0,none⟩ (.int .i64 er)) :=
   ((((Ty.refl w6).set kg6 (.inr (.inr rfl)) _).set (Qdt ka6 (p:=⟨w3.heap.size,2,none⟩) ha2 (.bool false)) (.inl rfl) _).alloc _).set (Qef (Qdt (Qdt ke6 (p:=⟨w3.heap.size,2,none⟩) he2 (.bool false)) (p:=⟨w.heap.size,0,none⟩) hea (.int .i64 i)) _) (.inr (.inl rfl)) _
  refine leaves_cons (f:=190) (args:=#[.pointer (some ⟨w3.heap.size+1,0,none⟩),.pointer (some ⟨w.heap.size,0,none⟩),.pointer (some ⟨w.heap.size+1,0,none⟩)]) (by simp) (by simp[go_sem]) ?_;refine(Qpx w3.heap.size w.heap.size (w.heap.size+1) (w3.heap.size+1) i 0 0 er v6 _ kp6 kg6 ka6 ke6).mono ?_;rintro e u' w'' ⟨rfl,rfl,rfl⟩;show Leaves _ _ _ _ [] .returning _;exact⟨_,Qpy _ _ _ _ i er rfl rfl ba9 be9,er,i,rfl,HST.out _ _ _ _ hp6 bl bt⟩
theorem Qqa(F:Nat)(cap:Array Value)(A0:Option Addr)(c0:Nat)(l0:List Int)(w:World)(hr0:Kd.C (Kd.int .u8) w A0 l0.length l0)(hl:l0.length≤140737488355328)
  (hcf:∀(as_:Array Value) (W:World),(callFunc F as_).run Tryz.prog W=.ok (.enter F as_) W)
  (Post:Int→Int→World→Prop) (hst:∀er i W W',Post er i W→Below w.heap.size W W'→Post er i W')
  (hrd:∀(W:World) (g:Nat),w.heap.size≤g→Below w.heap.size w W→IsCur W w.heap.size g l0 0→Calls Tryz.prog F (#[.pointer (some ⟨g,0,none⟩)]++cap) W fun e W'=>∃i,IsCur W' w.heap.size g l0 i∧Tl w.heap.size g W W' ∧
   ((e=.returned (.tuple #[])∧Post 0 i W')∨∃er,e=.panicked [Qpc g er]∧Post er i W')) :
  Calls Tryz.prog 137 #[.slice A0 l0.length c0,.func (.func F) #[] cap] w fun e w'=>∃er i,e=.returned (.tuple #[.int .i64 i,.int .i64 er])∧Post er i w' :=
 Qpz F cap A0 c0 l0 w hr0 hl hcf Post (fun er i W W' h1 h2 _=>hst er i W W' h1 h2) hrd
def Qbe.f(k:Nat)(a0:ByteArray):Option ByteArray:=if a0.size≤70368744177664 then(Qbd.f k (a0.size:Int)).bind fun t=>if t.size≤1000 then some (t++a0)else none else none
theorem Qbe.calls(k:Nat)(a0:ByteArray)(r:ByteArray)(w:World)(h:Qbe.f k a0=some r) :
  Calls Tryz.prog 104 #[.string a0] w fun e w'=>e=.returned (.string r)∧Below w.heap.size w w':=by
 unfold Qbe.f at h
 by_cases hs:a0.size≤70368744177664
 ·rw[if_pos hs]at h;obtain⟨t,ht,h⟩:=Option.bind_eq_some_iff.mp h
  by_cases h1:t.size≤1000
  ·rw[if_pos h1]at h;obtain rfl:=Option.some.inj h;have HT:=QA ht;clear ht h;have hc:t.size+a0.size≤9223372036854775807:=by omega
   go_enter Tryz.func104,Tryz.ntmps104
   go_wp2_with (go_at_call 98;refine(Qbd.calls k _ _ _ HT.out).mono ?_;rintro e w1 ⟨rfl,hb1⟩)
   go_ret
   exact⟨rfl,hb1⟩
  ·rw[if_neg h1]at h;cases h
 ·rw[if_neg hs]at h;cases h
theorem Qrv(n:Int)(h0:0≤n)(h1:n≤140737488355328):Qaa.f 1 n=some (0,n):=by
 have e1:Go.bits .and .u64 1 4294967295=1:=by rw[and_low32 _ (by omega) (by omega)];rfl
 have e2:Go.bits .and .u64 n 4294967295=n%4294967296:=and_low32 _ (by omega) (by omega);have e3:∀x:Int,0≤x→x≤18446744073709551615→IntKind.u64.wrap x=x:=fun x a b=>IntWalk.u64_in x ⟨a,b⟩
 unfold Qaa.f Qab.f;rw[e1,e2];have d1:(1:Int)/4294967296=0:=by decide
 have m0:0≤n%4294967296:=by omega
 have m1:n%4294967296<4294967296:=by omega
 have q0:0≤n/4294967296:=by omega
 have q1:n/4294967296<4294967296:=by omega
 have d2:(n%4294967296)/4294967296=0:=by omega
 have d3:(n/4294967296)/4294967296=0:=by omega
 have z3:IntKind.u64.wrap 0=0:=e3 0 (by omega) (by omega);have zb:Go.bits .and .u64 0 4294967295=0:=by rw[and_low32 _ (by omega) (by omega)];rfl
 simp only[d1,Int.zero_mul,Int.one_mul,z3,e3 _ m0 (by omega),d2,Int.add_zero,Int.zero_add,Int.zero_ediv,zb,e3 _ q0 (by omega),d3,e3 _ h0 (by omega),Option.bind_some]
attribute [local go_sem] Qib Qic Qid Qie
def Fill(w wr:World)(g n bp:Nat)(x:Int):Prop :=
 ∃cur:List Value,wr.heap[g]? = some (.cells cur.toArray 5 (0,0))∧n≤cur.length∧(∀j,j<bp→cur[j]? = some (.int .u8 x))∧Below w.heap.size w wr∧w.heap.size≤g
theorem Fill.splice{w w1:World}{g n bp k:Nat}{x:Int}{cur:List Value}(hc:∀j,j<bp→cur[j]? = some (.int .u8 x))(hl:n≤cur.length)(hbk:bp+k≤n)(hg:w1.heap[g]? = some (.cells (splice cur bp (List.replicate k (.int .u8 x))).toArray 5 (0,0)))(hB:Below w.heap.size w w1)(hle:w.heap.size≤g):Fill w w1 g n (bp+k) x:=by
 refine⟨_,hg,?_,?_,hB,hle⟩
 ·rw[length_splice _ _ _ qq_20];exact hl
 ·intro j hj;unfold Go.splice
  by_cases h1:j<bp
  ·rw[List.getElem?_append_left qq_20,List.getElem?_take_of_lt h1];exact hc j h1
  ·rw[List.getElem?_append_right qq_20,List.length_take,Nat.min_eq_left (by omega),List.getElem?_append_left qq_20];simp[List.getElem?_replicate];omega
theorem Qrw (A0:Option Addr) (c0:Nat) (x:Int) (n:Nat) (w:World) (p:0<n) (hn:n≤140737488355328) (hr0:Kd.C (Kd.int .u8) w A0 1 [x]) :
    Calls Tryz.prog 120 #[.slice A0 1 c0,.int .i64 n] w fun e w'=>∃g,e=.returned (.slice (some ⟨g,0,none⟩) n n)∧Fill w w' g n n x:=by
  have hmul:=Qrv n (by omega) (by omega);obtain⟨ad,c,rfl,_,hK,hcell0⟩:=Kd.C_get hr0 0 0 (by omega) (by omega);have hK':c=[.int .u8 x]:=hK;subst hK';have hcell:=hcell0 0 _ rfl;clear hcell0 hK;have n0:(0:Int)<(n:Int):=by omega
  have n1:(n:Int)≤140737488355328:=by omega
  go_enter Tryz.func120,Tryz.ntmps120
  have hsz1:(Tryz.prog.info? 5).map (·.size)=some 1:=by kernel_rfl
  obtain⟨g,hg⟩:∃g,g=w.heap.size:=⟨_,rfl⟩
  go_wp2_with (go_at_call 168;refine(Qaa.calls 1 n 0 n w hmul).mono ?_;rintro e w' ⟨rfl,hd⟩;obtain⟨q,rfl⟩:=hd.out;clear hd;fail)
  go_at_call 168
  refine(Qaa.calls 1 n 0 n w hmul).mono ?_;rintro e w' ⟨rfl,hd⟩;obtain⟨q,rfl⟩:=hd.out;clear hd;obtain⟨cs,hrunM,hle,hmx⟩:=Lib.run_makeNoZero (P:=Tryz.prog) (w.drewN q) #[3] 52 5 Tryz.underlying52 n (by omega);have hcall:(callFunc 169 #[.int .i64 (n:Int)]).run Tryz.prog (w.drewN q)=.ok (.value (.slice (some ⟨w.heap.size,0,none⟩) n cs.size)) ((w.alloc (.cells cs 5)).drewN (q+2)):=by
    rw[run_callFunc_extern Tryz.func169 qq_7 qq_7 qq_7 (e:=Extern.BytealgMakeNoZero.makeNoZero #[3] #[52]) qq_7,hrunM];rfl
  clear hrunM hmx;have i1:(n:Int)≤(cs.size:Int):=by omega
  have hcell':((w.alloc (.cells cs 5)).drewN (q+2)).cell? (ad.add 0)=some (.int .u8 x):=by
    rw[World.cell?_drewN];exact(((Below.refl _ w).alloc (Nat.le_refl _) _).cell (World.block_lt_of_cell? w _ hcell)).trans hcell
  obtain⟨W0,hW0⟩:∃W0,((w.alloc (.cells cs 5)).drewN (q+2))=W0:=⟨_,rfl⟩;have hh0:W0.heap[g]? = some (.cells cs.toList.toArray 5 (0,0)):=by rw[← hW0,hg];simpa using heap_alloc_new w (.cells cs 5)
  have hb0:Below w.heap.size w W0:=by rw[← hW0];exact Qcy ((Below.refl _ w).alloc (Nat.le_refl _) _) _
  rw[hW0]at hcall hcell';clear hW0;have HG:=QA hg;rw[← hg]at hcall;clear hg
  by_cases hbig:8192<(n:Int)
  all_goals
    go_wp2_with (refine wpList_copy_splice rfl (.tmp 58) (.tmp 59) 52 52 ?ho 5 Tryz.underlying52 hsz1 (some ⟨g,0,none⟩) (some ad) n n 1 c0 ?hd ?hs g 0 cs.toList 5 hh0 [.int .u8 x] ?hn ?hpos ?hfit ?h1 w.heap.size w hb0 ?hBg ?_;(case ho=>rfl);(case hd=>rfl);(case hs=>rfl);(case hn=>simp[Nat.min_def];omega);(case hpos=>intro _;refine⟨rfl,ad,rfl,fun j v hj=>?_⟩;cases j with|zero=>(simp at hj;subst hj;exact hcell')|succ j=>(simp at hj));(case hfit=>simp;omega);(case h1=>intro v hv;simp at hv;subst hv;rfl);(case hBg=>rw[HG.out];exact Nat.le_refl _);intro w1 HG1 hb1)
    have b:Fill w w1 g n (0+1) x:=Fill.splice (cur:=cs.toList) (bp:=0) (k:=1) (by intro j hj;omega) (by simpa using hle) (by omega) HG1.out hb1 (by rw[HG.out];exact Nat.le_refl _);clear HG1 hb1
    go_loopw [10] (fun a wr=>∃(bp:Nat),1≤bp∧bp≤n∧a=.int .i64 (bp:Int)∧Aside0 (Fill w wr g n bp x)) (fun a _=>n-(intOf a).toNat)
    case atStart=>exact⟨1,Nat.le_refl _,by omega,rfl,⟨b⟩⟩
    case round =>
      clear b;obtain⟨bp,hb1,hb2,rfl,HF⟩:=hrel
      by_cases hlt:bp<n
      · by_cases c8:8192<(bp:Int)
        all_goals first |(exfalso;omega)|skip
        all_goals
         obtain⟨ch,hch1,hch2,hcb⟩:∃ch:Nat,1≤ch∧ch≤bp∧((8192<(n:Int)→8192<(bp:Int)→ch=8192)∧(¬8192<(bp:Int)→ch=bp)∧(¬8192<(n:Int)→ch=bp)):=by
          by_cases c:8192<(n:Int)∧8192<(bp:Int)
          · exact⟨8192,by omega,by omega,fun _ _=>rfl,by omega,by omega⟩
          · exact⟨bp,by omega,by omega,by omega,by omega,by omega⟩
         have e3:(if 8192<(bp:Int)then(8192:Int)else(bp:Int))≤(n:Int):=by split<;>omega
         first|rw[if_pos c8]at e3|rw[if_neg c8]at e3
         have HCB:=QA hcb;clear hcb;obtain⟨cur,hcur,hcl,hcx,hB,hle2⟩:=HF.out;obtain⟨kk,hkk⟩:∃kk,kk=Nat.min ch (n-bp):=⟨_,rfl⟩;have hk1:1≤kk∧kk≤ch∧kk≤n-bp:=by
           have h1:kk≤ch:=by rw[hkk];exact Nat.min_le_left _ _
           have h2:kk≤n-bp:=by rw[hkk];exact Nat.min_le_right _ _
           have h3:1≤kk:=by rw[hkk];exact Nat.le_min.2 ⟨hch1,by omega⟩
           exact⟨h3,h1,h2⟩
         have HKK:=QA hkk;clear hkk;have hcells:∀j,j<ch→wr.cell? ⟨g,j,none⟩=some (.int .u8 x):=by
           intro j hj;have:=hcx j (by omega);simp[World.cell?,hcur,this]
         have HCELLS:=QA hcells;have HCUR:=QA hcur;have HCX:=QA hcx;have HCL:=QA hcl;have HB:=QA hB;have HLE:=QA hle2;clear hcells hcur hcx hcl hB hle2 HF;have e1:(bp:Int)<(n:Int):=by omega
         have e2:(ch:Int)≤(n:Int):=by omega
         have d:=QA (show(List.replicate kk (Value.int .u8 x)).length=Nat.min ch (n-bp)by rw[List.length_replicate];exact HKK.out);have h:=QA (show ∀j v,(List.replicate kk (Value.int .u8 x))[j]? = some v→wr.cell? ((⟨g,0,none⟩:Addr).add j)=some v by
           intro j v hj;rw[List.getElem?_replicate]at hj;split at hj
           · injection hj with hj
             subst hj;rw[Qdb];exact HCELLS.out j (by omega)
           · cases hj)
         have l:=QA (show bp+(List.replicate kk (Value.int .u8 x)).length≤cur.length by rw[List.length_replicate];have:=HCL.out;omega);have m:=QA (show ∀v∈List.replicate kk (Value.int .u8 x),v.oneCell'=true by intro v hv;rw[(List.mem_replicate.1 hv).2];rfl)
         go_wp2_with fail
         go_region_law (refine step_copy_splice rfl (.tmp 70) (.tmp 73) 52 52 rfl 5 Tryz.underlying52 hsz1 (some ⟨g,bp,none⟩) (some ⟨g,0,none⟩) (n-bp) (n-bp) ch n (by(try simp[Act.eval,Act.put])<;>omega) (by(try simp[Act.eval,Act.put])<;>(have:=HCB.out;omega)) g bp cur 5 HCUR.out (List.replicate kk (.int .u8 x)) d.out (fun _=>⟨rfl,_,rfl,h.out⟩) l.out m.out w.heap.size w (by first|exact HB.out|exact Qcx HB.out) HLE.out ?_;intro w4 HG4 hb4)
         have o:Fill w w4 g n (bp+kk) x:=Fill.splice HCX.out HCL.out (by omega) HG4.out hb4 HLE.out;clear HG4 hb4;go_wp2
         go_roundw
         case rel=>exact⟨bp+kk,by omega,by omega,by rw[IntWalk.i64_in _ (by omega)];go_num,⟨o⟩⟩
         case measure=>simp[intOf,IntWalk.i64_in ((bp:Int)+(kk:Int)) (by omega)];omega
      · obtain rfl:bp=n:=by omega
        go_wp2;go_ret
        exact⟨g,rfl,HF.out⟩
theorem Qrx{w w':World}{g n:Nat}{x:Int}(h:Fill w w' g n n x)(hn:n≤9223372036854775807):Kd.C (Kd.int .u8) w' (some ⟨g,0,none⟩) n (List.replicate n x):=by
 obtain⟨cur,h1,h2,h3,h4,h5⟩:=h;refine Kd.C_of_reads (d:=(0:Int)) ⟨List.length_replicate,hn,fun _=>⟨_,rfl,fun j hj=>?_⟩⟩;rw[Qdb,Qdv h1];simp[h3 j hj,List.getD_eq_getElem?_getD,List.getElem?_replicate,hj]
theorem Qry(A0:Option Addr)(c0:Nat)(x:Int)(n:Nat)(w:World)(hn:n≤140737488355328)(hr0:Kd.C (Kd.int .u8) w A0 1 [x]) :
  Calls Tryz.prog 120 #[.slice A0 1 c0,.int .i64 n] w fun e w'=>∃A c,e=.returned (.slice A n c)∧n≤c∧Kd.C (Kd.int .u8) w' A n (List.replicate n x)∧Below w.heap.size w w':=by
 rcases Nat.eq_zero_or_pos n with rfl|hp
 ·go_enter Tryz.func120,Tryz.ntmps120
  go_wp2;go_ret
  exact⟨_,_,rfl,Nat.le_refl _,⟨rfl,by omega,fun h=>absurd h (by omega)⟩,Qcw (Below.refl _ _) _⟩
 ·refine(Qrw A0 c0 x n w hp hn hr0).mono ?_;rintro e w' ⟨g,rfl,hF⟩;refine⟨_,_,rfl,Nat.le_refl _,Qrx hF (by omega),?_⟩;obtain⟨cur,h1,h2,h3,h4,h5⟩:=hF;exact h4
end Go.Proofs.YtnnofopfbeklbaaGreat.C
end
section
namespace Go.Proofs.YtnnofopfbeklbaaGreat.C
open Go.RowKit Go.Proofs.YtnnofopfbeklbaaGreatW.PrintWords Go.Proofs.YtnnofopfbeklbaaGreatW.PrintLast Go.Proofs.YtnnofopfbeklbaaGreatW.PrintMore
attribute [local go_sem] Qib Qic Qid Qie Qif Qig Qih Qii
mutual
def Qbf.j0:Nat→ByteArray→Int→Int→Option (Int)
 | 0,_,_,_=>none
 | k+1,x1,x5,x6=>Qbf.l0 k x1 (IntKind.u64.wrap (x6+x5))
def Qbf.l0:Nat→ByteArray→Int→Option (Int)
 | 0,_,_=>none
 | k+1,x1,x6=>if(x1.size:Int)≥8 then(if 0≤8 then(if 8≤(x1.size:Int)then((Qba.f k (x1.extract 0 8)).bind fun t274=>((Qbh.f k 0 t274).bind fun t275=>((Qbj.f k (Go.bits .xor .u64 x6 t275) 27).bind fun t276=>(Qbf.l0 k (x1.extract 8 x1.size) (IntKind.u64.wrap ((IntKind.u64.wrap (t276*11400714785074694791))+9650029242287828579))))))else(none))else(none))else(Qbf.l1 k x1 x6)
def Qbf.l1:Nat→ByteArray→Int→Option (Int)
 | 0,_,_=>none
 | k+1,x1,x6=>if(x1.size:Int)≥4 then(if 0≤4 then(if 4≤(x1.size:Int)then((Qba.f k (x1.extract 0 4)).bind fun t277=>((Qbj.f k (Go.bits .xor .u64 x6 (IntKind.u64.wrap (t277*11400714785074694791))) 23).bind fun t278=>(Qbf.l1 k (x1.extract 4 x1.size) (IntKind.u64.wrap ((IntKind.u64.wrap (t278*14029467366897019727))+1609587929392839161)))))else(none))else(none))else(Qbf.l2 k x1 x6 0)
def Qbf.l2:Nat→ByteArray→Int→Int→Option (Int)
 | 0,_,_,_=>none
 | k+1,x1,x6,x8=>if x8<(x1.size:Int)then(if 0≤x8 then((Qbj.f k (Go.bits .xor .u64 x6 (IntKind.u64.wrap ((IntKind.u64.wrap (bt x1 x8))*2870177450012600261))) 11).bind fun t279=>(Qbf.l2 k x1 (IntKind.u64.wrap (t279*11400714785074694791)) (wrap64 (x8+1))))else(none))else((Qbi.f k x6 33).bind fun t280=>((Qbi.f k (IntKind.u64.wrap (t280*14029467366897019727)) 29).bind fun t281=>((Qbi.f k (IntKind.u64.wrap (t281*1609587929392839161)) 32).bind fun t282=>(some t282))))
end
def Qbf.f(k:Nat)(a0:Int)(a1:ByteArray):Option (Int):=if(a1.size:Int)≥32 then((Qbg.f a0 a1).bind fun bt272=>(Qbf.j0 k bt272.2 (IntKind.u64.wrap ((a1.size:Int))) bt272.1))else(Qbf.j0 k a1 (IntKind.u64.wrap ((a1.size:Int))) (IntKind.u64.wrap (a0+2870177450012600261)))
theorem Qbf.calls (k:Nat) (a0:Int) (a1:ByteArray) (r:Int) (w:World) (h:Qbf.f k a0 a1=some r) :
  Calls Tryz.prog 65 #[.int .u64 a0,.string a1] w fun e w'=>e=.returned (.int .u64 r)∧Below w.heap.size w w':=by
 have HB:=QA (Below.refl w.heap.size w);have H:(if(a1.size:Int)≥32 then((Qbg.f a0 a1).bind fun bt272=>(Qbf.j0 k bt272.2 (IntKind.u64.wrap ((a1.size:Int))) bt272.1))else(Qbf.j0 k a1 (IntKind.u64.wrap ((a1.size:Int))) (IntKind.u64.wrap (a0+2870177450012600261))))=some r:=h;clear h;have J:=QA H;clear H
 go_enter Tryz.func65,Tryz.ntmps65
 go_upto_if 17 with(fail)
 go_cut [1,6] (fun v1 v6 wc=>∃(kq:Nat) (a:ByteArray) (c:Int),v1=.string a∧v6=.int .u64 c∧Aside0 (Qbf.j0 kq a (IntKind.u64.wrap ((a1.size:Int))) c=some r)∧Aside0 (kq≤k)∧Aside0 (Below w.heap.size w wc))
 case first =>
  have H:=J.out;clear J
  by_cases c4:(a1.size:Int)≥32
  ·rw[if_pos c4]at H;have g:decide (32≤(a1.size:Int))=true:=decide_eq_true c4;have m:decide (32≤a1.size)=true:=decide_eq_true (by omega);clear c4
   (first|rw[g] |(simp only[Qgo,Qgp];rw[g])|skip)
   replace H:=Option.bind_eq_some_iff.mp H;obtain⟨⟨s,t⟩,al,H⟩:=H;replace H:(Qbf.j0 k t (IntKind.u64.wrap ((a1.size:Int))) s)=some r:=H;have A5:=QA al;clear al;have H':=QA H;clear H
   go_wp2_with (first |((with_reducible refine Qij (f:=105) rfl ?_);refine Qgm (some 21) rfl rfl Tryz.func105 qq_7 rfl #[.int .u64 a0,.string a1] rfl qq_1 ?_;(with_reducible refine(Qbg.calls a0 a1 s t _ A5.out).mono ?_);rintro e w6 ⟨rfl,hb⟩;refine⟨_,rfl,?_⟩;have n_:=qn1 (Qfj qq_b hb);clear HB;have HB:=n_;clear n_;(try clear hb);(try clear hb2);(try clear hk);(try clear hi)))
   go_meet
   case rel=>exact⟨_,(t),(s),qq_4,qq_4,H',⟨by first|omega|exact Nat.le_refl _⟩,⟨qq_b⟩⟩
  ·rw[if_neg c4]at H;have g:decide (32≤(a1.size:Int))=false:=decide_eq_false c4;have m:decide (32≤a1.size)=false:=decide_eq_false (by omega);clear c4
   (first|rw[g] |(simp only[Qgo,Qgp];rw[g])|skip)
   have H':=QA H;clear H;go_wp2
   go_meet
   case rel=>exact⟨_,(a1),(IntKind.u64.wrap (a0+2870177450012600261)),qq_4,qq_4,H',⟨by first|omega|exact Nat.le_refl _⟩,⟨qq_b⟩⟩
 case rest =>
  clear J
  try clear c4
  try clear g
  try clear m
  obtain⟨kq,a,c,rfl,rfl,HA,HJ2,HB⟩:=hcut
  cases kq with
  | zero=>exact absurd HA.out (by simp[Qbf.j0])
  | succ kj2 =>
   have H:=HA.out;clear HA;simp only[Qbf.j0]at H;have H':=QA H;clear H;go_wp2
   go_loopg [1,6] kj2 (fun kq v1 v6 w'=>∃(a:ByteArray) (c:Int),v1=.string a∧v6=.int .u64 c∧Aside0 (Qbf.l0 kq a c=some r)∧Aside0 (kq≤kj2)∧Aside0 (Below w.heap.size w w'))
   case atStart=>exact⟨(a),(IntKind.u64.wrap (c+(IntKind.u64.wrap ((a1.size:Int))))),qq_4,qq_4,H',⟨Nat.le_refl _⟩,⟨qq_b⟩⟩
   case round =>
    clear H'
    try clear c4
    try clear g
    try clear m
    obtain⟨a,c,rfl,rfl,HA,HK2,HB⟩:=hrel
    cases gk with
    | zero=>exact absurd HA.out (by simp[Qbf.l0])
    | succ k2 =>
     have H:=HA.out;clear HA;simp only[Qbf.l0]at H
     by_cases c7:(a.size:Int)≥8
     ·rw[if_pos c7]at H;have u:decide (8≤(a.size:Int))=true:=decide_eq_true c7;have v:decide (8≤a.size)=true:=decide_eq_true (by omega);clear c7
      by_cases c8:0≤8
      ·rw[if_pos c8]at H;have K:=eq_true c8;have L:=decide_eq_true c8;clear c8
       by_cases c9:8≤(a.size:Int)
       ·rw[if_pos c9]at H;have M:=eq_true c9;have O:=decide_eq_true c9;clear c9;obtain⟨x,P,H⟩:=Option.bind_eq_some_iff.mp H;have ap:=QA P;clear P;obtain⟨y,T,H⟩:=Option.bind_eq_some_iff.mp H;have aq:=QA T;clear T;obtain⟨U,W,H⟩:=Option.bind_eq_some_iff.mp H;have ar:=QA W;clear W;have D:=eq_true (of_decide_eq_true qq_3:8≤(a.size:Int));have H':=QA H;clear H
        go_wp2_with (first |((with_reducible refine Qij (f:=107) rfl ?_);refine Qgm (some 33) rfl rfl Tryz.func107 qq_7 rfl #[.string (a.extract 0 8)] rfl qq_1 ?_;(with_reducible refine(Qba.calls k2 (a.extract 0 8) x _ ap.out).mono ?_);rintro e w' ⟨rfl,⟨nd,rfl⟩⟩;refine⟨_,rfl,?_⟩) |((with_reducible refine Qij (f:=106) rfl ?_);refine Qgm (some 34) rfl rfl Tryz.func106 qq_7 rfl #[.int .u64 0,.int .u64 x] rfl qq_1 ?_;(with_reducible refine(Qbh.calls k2 0 x y _ aq.out).mono ?_);rintro e w' ⟨rfl,⟨nd,rfl⟩⟩;refine⟨_,rfl,?_⟩) |((with_reducible refine Qij (f:=108) rfl ?_);refine Qgm (some 37) rfl rfl Tryz.func108 qq_7 rfl #[.int .u64 (Go.bits .xor .u64 c y),.int .i64 27] rfl qq_1 ?_;(with_reducible refine(Qbj.calls k2 (Go.bits .xor .u64 c y) 27 U _ ar.out).mono ?_);rintro e w' ⟨rfl,⟨nd,rfl⟩⟩;refine⟨_,rfl,?_⟩))
        go_roundg k2
        case measure=>have:=HJ2.out;have:=HK2.out;omega
        case rel=>exact⟨(a.extract 8 a.size),(IntKind.u64.wrap ((IntKind.u64.wrap (U*11400714785074694791))+9650029242287828579)),qq_4,qq_4,H',⟨by have:=HJ2.out;have:=HK2.out;omega⟩,⟨qq_b⟩⟩
       ·rw[if_neg c9]at H;exact absurd H (by simp)
      ·rw[if_neg c8]at H;exact absurd H (by simp)
     ·rw [if_neg c7]at H;have u:decide (8≤(a.size:Int))=false:=decide_eq_false c7;have v:decide (8≤a.size)=false:=decide_eq_false (by omega);clear c7;have H':=QA H;clear H;go_wp2
      go_loopg [1,6] k2 (fun kq v1 v6 w'=>∃(b:ByteArray) (l:Int),v1=.string b∧v6=.int .u64 l∧Aside0 (Qbf.l1 kq b l=some r)∧Aside0 (kq≤k2)∧Aside0 (Below w.heap.size w w'))
      case atStart=>exact⟨(a),(c),qq_4,qq_4,H',⟨Nat.le_refl _⟩,⟨qq_b⟩⟩
      case round =>
       clear H'
       try clear c4
       try clear g
       try clear m
       try clear c7
       try clear u
       try clear v
       try clear c8
       try clear K
       try clear L
       try clear c9
       try clear M
       try clear O
       try clear D
       obtain⟨b,l,rfl,rfl,HA,HK3,HB⟩:=hrel
       cases gk with
       | zero=>exact absurd HA.out (by simp[Qbf.l1])
       | succ k3 =>
        have H:=HA.out;clear HA;simp only[Qbf.l1]at H
        by_cases n:(b.size:Int)≥4
        ·rw[if_pos n]at H;have E:decide (4≤(b.size:Int))=true:=decide_eq_true n;have G:decide (4≤b.size)=true:=decide_eq_true (by omega);clear n
         by_cases o:0≤4
         ·rw[if_pos o]at H;have af:=eq_true o;have ag:=decide_eq_true o;clear o
          by_cases p:4≤(b.size:Int)
          ·rw[if_pos p]at H;have ah:=eq_true p;have ai:=decide_eq_true p;clear p;obtain⟨z,X,H⟩:=Option.bind_eq_some_iff.mp H;have au:=QA X;clear X;obtain⟨Y,Z,H⟩:=Option.bind_eq_some_iff.mp H;have av:=QA Z;clear Z;have aj:=eq_true (of_decide_eq_true qq_3:4≤(b.size:Int));have H':=QA H;clear H
           go_wp2_with (first |((with_reducible refine Qij (f:=107) rfl ?_);refine Qgm (some 47) rfl rfl Tryz.func107 qq_7 rfl #[.string (b.extract 0 4)] rfl qq_1 ?_;(with_reducible refine(Qba.calls k3 (b.extract 0 4) z _ au.out).mono ?_);rintro e w' ⟨rfl,⟨nd,rfl⟩⟩;refine⟨_,rfl,?_⟩) |((with_reducible refine Qij (f:=108) rfl ?_);refine Qgm (some 52) rfl rfl Tryz.func108 qq_7 rfl #[.int .u64 (Go.bits .xor .u64 l (IntKind.u64.wrap (z*11400714785074694791))),.int .i64 23] rfl qq_1 ?_;(with_reducible refine(Qbj.calls k3 (Go.bits .xor .u64 l (IntKind.u64.wrap (z*11400714785074694791))) 23 Y _ av.out).mono ?_);rintro e w' ⟨rfl,⟨nd,rfl⟩⟩;refine⟨_,rfl,?_⟩))
           go_roundg k3
           case measure=>have:=HJ2.out;have:=HK2.out;have:=HK3.out;omega
           case rel=>exact⟨(b.extract 4 b.size),(IntKind.u64.wrap ((IntKind.u64.wrap (Y*14029467366897019727))+1609587929392839161)),qq_4,qq_4,H',⟨by have:=HJ2.out;have:=HK2.out;have:=HK3.out;omega⟩,⟨qq_b⟩⟩
          ·rw[if_neg p]at H;exact absurd H (by simp)
         ·rw[if_neg o]at H;exact absurd H (by simp)
        ·rw [if_neg n]at H;have E:decide (4≤(b.size:Int))=false:=decide_eq_false n;have G:decide (4≤b.size)=false:=decide_eq_false (by omega);clear n;have H':=QA H;clear H;go_wp2
         go_loopg [6,8] k3 (fun kq v6 v8 w'=>∃(j:Int) (d:Int),v6=.int .u64 j∧v8=.int .i64 d∧Aside0 (Qbf.l2 kq b j d=some r)∧Aside0 (kq≤k3)∧Aside0 (Below w.heap.size w w'))
         case atStart=>exact⟨(l),(0),qq_4,qq_4,H',⟨Nat.le_refl _⟩,⟨qq_b⟩⟩
         case round =>
          clear H'
          try clear c4
          try clear g
          try clear m
          try clear c7
          try clear u
          try clear v
          try clear c8
          try clear K
          try clear L
          try clear c9
          try clear M
          try clear O
          try clear D
          try clear n
          try clear E
          try clear G
          try clear o
          try clear af
          try clear ag
          try clear p
          try clear ah
          try clear ai
          try clear aj
          obtain⟨j,d,rfl,rfl,HA,HK4,HB⟩:=hrel
          cases gk with
          | zero=>exact absurd HA.out (by simp[Qbf.l2])
          | succ k4 =>
           have H:=HA.out;clear HA;simp only[Qbf.l2]at H
           by_cases q:d<(b.size:Int)
           ·rw[if_pos q]at H;have ak:=decide_eq_true q;clear q
            by_cases I:0≤d
            ·rw[if_pos I]at H;have aA:=decide_eq_true I;clear I;obtain⟨aa,ab,H⟩:=Option.bind_eq_some_iff.mp H;have aw:=QA ab;clear ab;have H':=QA H;clear H;have am:0≤(d:Int):=of_decide_eq_true qq_3;have an:d<(b.size:Int):=of_decide_eq_true qq_3;have aB:=Qcv b d;replace am:=eq_true am;replace an:=eq_true an
             go_wp2_with (first |((with_reducible refine Qij (f:=108) rfl ?_);refine Qgm (some 71) rfl rfl Tryz.func108 qq_7 rfl #[.int .u64 (Go.bits .xor .u64 j (IntKind.u64.wrap ((IntKind.u64.wrap (bt b d))*2870177450012600261))),.int .i64 11] rfl qq_1 ?_;(with_reducible refine(Qbj.calls k4 (Go.bits .xor .u64 j (IntKind.u64.wrap ((IntKind.u64.wrap (bt b d))*2870177450012600261))) 11 aa _ aw.out).mono ?_);rintro e w' ⟨rfl,⟨nd,rfl⟩⟩;refine⟨_,rfl,?_⟩))
             go_roundg k4
             case measure=>have:=HJ2.out;have:=HK2.out;have:=HK3.out;have:=HK4.out;omega
             case rel=>exact⟨(IntKind.u64.wrap (aa*11400714785074694791)),(wrap64 (d+1)),qq_4,qq_4,H',⟨by have:=HJ2.out;have:=HK2.out;have:=HK3.out;have:=HK4.out;omega⟩,⟨qq_b⟩⟩
            ·rw[if_neg I]at H;exact absurd H (by simp)
           ·rw[if_neg q]at H;have ak:=decide_eq_false q;clear q;obtain⟨A,ac,H⟩:=Option.bind_eq_some_iff.mp H;have ax:=QA ac;clear ac;obtain⟨B,ad,H⟩:=Option.bind_eq_some_iff.mp H;have ay:=QA ad;clear ad;obtain⟨ao,ae,H⟩:=Option.bind_eq_some_iff.mp H;have az:=QA ae;clear ae;obtain rfl:=Option.some.inj H
            go_wp2_with (first |((with_reducible refine Qij (f:=109) rfl ?_);refine Qgm (some 74) rfl rfl Tryz.func109 qq_7 rfl #[.int .u64 j,.int .i64 33] rfl qq_1 ?_;(with_reducible refine(Qbi.calls k4 j 33 A _ ax.out).mono ?_);rintro e w' ⟨rfl,⟨nd,rfl⟩⟩;refine⟨_,rfl,?_⟩) |((with_reducible refine Qij (f:=109) rfl ?_);refine Qgm (some 77) rfl rfl Tryz.func109 qq_7 rfl #[.int .u64 (IntKind.u64.wrap (A*14029467366897019727)),.int .i64 29] rfl qq_1 ?_;(with_reducible refine(Qbi.calls k4 (IntKind.u64.wrap (A*14029467366897019727)) 29 B _ ay.out).mono ?_);rintro e w' ⟨rfl,⟨nd,rfl⟩⟩;refine⟨_,rfl,?_⟩) |((with_reducible refine Qij (f:=109) rfl ?_);refine Qgm (some 80) rfl rfl Tryz.func109 qq_7 rfl #[.int .u64 (IntKind.u64.wrap (B*1609587929392839161)),.int .i64 32] rfl qq_1 ?_;(with_reducible refine(Qbi.calls k4 (IntKind.u64.wrap (B*1609587929392839161)) 32 ao _ az.out).mono ?_);rintro e w' ⟨rfl,⟨nd,rfl⟩⟩;refine⟨_,rfl,?_⟩))
            go_ret
            exact⟨qq_2,qq_b⟩
def Qbp.f(k:Nat)(a0:ByteArray):Option (ByteArray × Int):=(Qbl.f k a0).bind fun bt634=>(if bt634.2=0 then(if(wrap64 ((bt634.1.size:Int)-8))<0 then(some ((⟨#[]⟩:ByteArray),2))else(if 0≤(wrap64 ((bt634.1.size:Int)-8))then(if(wrap64 ((bt634.1.size:Int)-8))≤(bt634.1.size:Int)then((Qba.f k (bt634.1.extract ((wrap64 ((bt634.1.size:Int)-8)):Int).toNat bt634.1.size)).bind fun t636=>((Qbf.f k 0 (bt634.1.extract 0 ((wrap64 ((bt634.1.size:Int)-8)):Int).toNat)).bind fun t637=>(if t636=t637 then(some (bt634.1.extract 0 ((wrap64 ((bt634.1.size:Int)-8)):Int).toNat,0))else(some ((⟨#[]⟩:ByteArray),5)))))else(none))else(none)))else(some ((⟨#[]⟩:ByteArray),bt634.2)))
def Qbp.T7:Bool × List (List Nat × List Nat):=(true,[([],[]),([],[]),([0,1],[0,1]),([2],[2]),([],[]),([],[]),([4,5],[4,5]),([6,3],[6]),([3,7],[3,7])])
def Qbp.B7:List Nat:=[0,0,3,7,0,0,48,127,255]
theorem Qbp.tab7:rtab .any (Qhu Tryz.f135 7)=Qbp.T7:=by kernel_rfl
theorem Qbp.bits7:Qho Qbp.T7.2 Qbp.B7=true:=by kernel_rfl
theorem Qbp.calls(k:Nat)(a0:ByteArray)(r1:ByteArray)(r2:Int)(w:World)(h:Qbp.f k a0=some (r1,r2)) :
  Calls Tryz.prog 135 #[.string a0] w fun e w'=>e=.returned (.tuple #[.string r1,.int .i64 r2])∧Below w.heap.size w w':=by
 have HB:=QA (Below.refl w.heap.size w);have H:((Qbl.f k a0).bind fun bt634=>(if bt634.2=0 then(if(wrap64 ((bt634.1.size:Int)-8))<0 then(some ((⟨#[]⟩:ByteArray),2))else(if 0≤(wrap64 ((bt634.1.size:Int)-8))then(if(wrap64 ((bt634.1.size:Int)-8))≤(bt634.1.size:Int)then((Qba.f k (bt634.1.extract ((wrap64 ((bt634.1.size:Int)-8)):Int).toNat bt634.1.size)).bind fun c=>((Qbf.f k 0 (bt634.1.extract 0 ((wrap64 ((bt634.1.size:Int)-8)):Int).toNat)).bind fun d=>(if c=d then(some (bt634.1.extract 0 ((wrap64 ((bt634.1.size:Int)-8)):Int).toNat,0))else(some ((⟨#[]⟩:ByteArray),5)))))else(none))else(none)))else(some ((⟨#[]⟩:ByteArray),bt634.2))))=some (r1,r2):=h;clear h;replace H:=Option.bind_eq_some_iff.mp H;obtain⟨⟨a,g⟩,r,H⟩:=H;replace H:(if g=0 then(if(wrap64 ((a.size:Int)-8))<0 then(some ((⟨#[]⟩:ByteArray),2))else(if 0≤(wrap64 ((a.size:Int)-8))then(if(wrap64 ((a.size:Int)-8))≤(a.size:Int)then((Qba.f k (a.extract ((wrap64 ((a.size:Int)-8)):Int).toNat a.size)).bind fun c=>((Qbf.f k 0 (a.extract 0 ((wrap64 ((a.size:Int)-8)):Int).toNat)).bind fun d=>(if c=d then(some (a.extract 0 ((wrap64 ((a.size:Int)-8)):Int).toNat,0))else(some ((⟨#[]⟩:ByteArray),5)))))else(none))else(none)))else(some ((⟨#[]⟩:ByteArray),g)))=some (r1,r2):=H;have A2:=QA r;clear r
 by_cases c3:g=0
 ·rw [if_pos c3]at H;have u:(g == 0)=true:=beq_iff_eq.mpr c3;have v:(g != 0)=false:=bne_eq_false_iff_eq.mpr c3;clear c3
  by_cases c4:(wrap64 ((a.size:Int)-8))<0
  ·rw[if_pos c4]at H;have m:=decide_eq_true c4;clear c4;simp only[Option.some.injEq,Prod.mk.injEq]at H;obtain⟨rfl,rfl⟩:=H
   go_enter Tryz.func135,Tryz.ntmps135
   go_wp2_with (first |((with_reducible refine Qij (f:=186) rfl ?_);refine Qgm (some 9) rfl rfl Tryz.func186 qq_7 rfl #[.string a0] rfl qq_1 ?_;(with_reducible refine(Qbl.calls k a0 a g _ A2.out).mono ?_);rintro e w5 ⟨rfl,hb⟩;refine⟨_,rfl,?_⟩;have n_:=qn1 (Qfj qq_b hb);clear HB;have HB:=n_;clear n_;(try clear hb);(try clear hb2);(try clear hk);(try clear hi)))
   go_ret2
   exact⟨qq_2,qq_b⟩
  ·rw [if_neg c4]at H;have m:=decide_eq_false c4;clear c4;obtain⟨b,hji6⟩:∃j_:Int,(wrap64 ((a.size:Int)-8))=j_:=⟨_,rfl⟩;replace H:(if 0≤(b)then(if(b)≤(a.size:Int)then((Qba.f k (a.extract ((b):Int).toNat a.size)).bind fun c=>((Qbf.f k 0 (a.extract 0 ((b):Int).toNat)).bind fun d=>(if c=d then(some (a.extract 0 ((b):Int).toNat,0))else(some ((⟨#[]⟩:ByteArray),5)))))else(none))else(none))=some (r1,r2):=by first |(rw[hji6]at H;exact H) |(simp only[hji6]at H ⊢;exact H)
   (try rw[hji6]at m)
   (try rw[hji6]at A2)
   have z:(IntKind.i64.wrap ((a.size:Int)-8))=b:=(Qgo _).trans hji6
   by_cases c7:0≤(b)
   ·rw[if_pos c7]at H;have G:=eq_true c7;have I:=decide_eq_true c7;clear c7
    by_cases c8:(b)≤(a.size:Int)
    ·rw[if_pos c8]at H;have J:=eq_true c8;have L:=decide_eq_true c8;clear c8;obtain⟨c,s,H⟩:=Option.bind_eq_some_iff.mp H;have A9:=QA s;clear s;have A:=eq_true (of_decide_eq_true qq_3:0≤(b));have B:=eq_true (of_decide_eq_true qq_3:(b)≤(a.size:Int));obtain⟨d,o,H⟩:=Option.bind_eq_some_iff.mp H;have t:=QA o;clear o
     by_cases l:c=d
     ·rw[if_pos l]at H;have p:(c == d)=true:=beq_iff_eq.mpr l;have q:(c != d)=false:=bne_eq_false_iff_eq.mpr l;clear l;have D:=eq_true (of_decide_eq_true qq_3:0≤(b));have E:=eq_true (of_decide_eq_true qq_3:(b)≤(a.size:Int));simp only[Option.some.injEq,Prod.mk.injEq]at H;obtain⟨rfl,rfl⟩:=H
      go_enter Tryz.func135,Tryz.ntmps135
      try go_wp2_with (first |((with_reducible refine Qij (f:=186) rfl ?_);refine Qgm (some 9) rfl rfl Tryz.func186 qq_7 rfl #[.string a0] rfl qq_1 ?_;(with_reducible refine(Qbl.calls k a0 a g _ A2.out).mono ?_);rintro e x ⟨rfl,hb⟩;refine⟨_,rfl,?_⟩;have n_:=qn1 (Qfj qq_b hb);clear HB;have HB:=n_;clear n_;(try clear hb);(try clear hb2);(try clear hk);(try clear hi)))
      have n_:=qn1 (Qfq HB.out);clear HB;have HB:=n_;clear n_;refine Qge (n:=9) (S:=fun w'=>True) (ds:=[]) (bm 9 0) qq_7 rfl rfl trivial (fun j=>?_);refine Qhs Qbp.tab7 Qbp.bits7 (fun HT_ HW_=>?_);generalize x.drew=w17 at HB j ⊢;refine pz_ (i:=0) (N:=some 20) (bm 9 1) (Qhk HT_.out qq_7) ?_;refine pz_ (i:=1) (N:=some 21) (bm 9 3) (Qhk HT_.out qq_7) ?_;refine pz_ (i:=2) (N:=some 22) (bm 9 7) (Qhk HT_.out qq_7) ?_;refine pz_ (i:=4) (N:=some 24) (bm 9 23) (Qhk HT_.out qq_7) ?_;refine pz_ (i:=5) (N:=some 25) (bm 9 55) (Qhk HT_.out qq_7) ?_;refine pz_ (i:=6) (N:=some 26) (bm 9 119) (Qhk HT_.out qq_7) ?_;refine one_ (i:=3) (N:=some 23) (bm 9 127) rfl rfl (Qhl HT_.out qq_7) (by decide) (fun K hK=>?_);refine Qgl Tryz.func107 qq_7 rfl #[.string (a.extract ((b):Int).toNat a.size)] (by rfl) rfl rfl qq_16 ?_;with_reducible refine(Qba.calls k (a.extract ((b):Int).toNat a.size) c _ A9.out).mono ?_
      rintro e w' ⟨rfl,⟨nd,rfl⟩⟩;refine⟨_,rfl,?_⟩;refine hK.out _ _ trivial (fun j=>?_);clear hK K;refine nzp_ 23 ?_;refine one_ (i:=7) (N:=some 27) (bm 9 255) rfl rfl (Qhl HT_.out qq_7) (by decide) (fun K hK=>?_);refine Qgl Tryz.func65 qq_7 rfl #[.int .u64 0,.string (a.extract 0 ((b):Int).toNat)] (by rfl) rfl rfl qq_16 ?_;with_reducible refine(Qbf.calls k 0 (a.extract 0 ((b):Int).toNat) d _ t.out).mono ?_
      rintro e M ⟨rfl,hb⟩;refine⟨_,rfl,?_⟩;have n_:=qn1 (Qfj qq_b hb);clear HB;have HB:=n_;clear n_
      (try clear hb)
      (try clear hb2)
      (try clear hk)
      (try clear hi)
      refine hK.out _ _ trivial (fun j=>?_);clear hK K;refine nzp_ 27 ?_;refine pz_ (i:=8) (N:=some 28) (bm 9 511) (Qhk HT_.out qq_7) ?_;refine Qgh (Qhn HT_.out qq_7) ?_
      try go_wp2
      go_ret2
      exact⟨by first|rfl |(simp[Qio,Qip]<;>rfl) |(simp only[← hji6];first|rfl |(simp[Qio,Qip]<;>rfl)) |(simp[*,Qio,Qip]<;>rfl),qq_b⟩
     ·rw[if_neg l]at H;have p:(c == d)=false:=beq_eq_false_iff_ne.mpr l;have q:(c != d)=true:=bne_iff_ne.mpr l;simp only[Option.some.injEq,Prod.mk.injEq]at H;obtain⟨rfl,rfl⟩:=H
      go_enter Tryz.func135,Tryz.ntmps135
      try go_wp2_with (first |((with_reducible refine Qij (f:=186) rfl ?_);refine Qgm (some 9) rfl rfl Tryz.func186 qq_7 rfl #[.string a0] rfl qq_1 ?_;(with_reducible refine(Qbl.calls k a0 a g _ A2.out).mono ?_);rintro e y ⟨rfl,hb⟩;refine⟨_,rfl,?_⟩;have n_:=qn1 (Qfj qq_b hb);clear HB;have HB:=n_;clear n_;(try clear hb);(try clear hb2);(try clear hk);(try clear hi)))
      have n_:=qn1 (Qfq HB.out);clear HB;have HB:=n_;clear n_;refine Qge (n:=9) (S:=fun w'=>True) (ds:=[]) (bm 9 0) qq_7 rfl rfl trivial (fun j=>?_);refine Qhs Qbp.tab7 Qbp.bits7 (fun HT_ HW_=>?_);generalize y.drew=w20 at HB j ⊢;refine pz_ (i:=0) (N:=some 20) (bm 9 1) (Qhk HT_.out qq_7) ?_;refine pz_ (i:=1) (N:=some 21) (bm 9 3) (Qhk HT_.out qq_7) ?_;refine pz_ (i:=2) (N:=some 22) (bm 9 7) (Qhk HT_.out qq_7) ?_;refine pz_ (i:=4) (N:=some 24) (bm 9 23) (Qhk HT_.out qq_7) ?_;refine pz_ (i:=5) (N:=some 25) (bm 9 55) (Qhk HT_.out qq_7) ?_;refine pz_ (i:=6) (N:=some 26) (bm 9 119) (Qhk HT_.out qq_7) ?_;refine one_ (i:=3) (N:=some 23) (bm 9 127) rfl rfl (Qhl HT_.out qq_7) (by decide) (fun K hK=>?_);refine Qgl Tryz.func107 qq_7 rfl #[.string (a.extract ((b):Int).toNat a.size)] (by rfl) rfl rfl qq_16 ?_;with_reducible refine(Qba.calls k (a.extract ((b):Int).toNat a.size) c _ A9.out).mono ?_
      rintro e w' ⟨rfl,⟨nd,rfl⟩⟩;refine⟨_,rfl,?_⟩;refine hK.out _ _ trivial (fun j=>?_);clear hK K;refine nzp_ 23 ?_;refine one_ (i:=7) (N:=some 27) (bm 9 255) rfl rfl (Qhl HT_.out qq_7) (by decide) (fun K hK=>?_);refine Qgl Tryz.func65 qq_7 rfl #[.int .u64 0,.string (a.extract 0 ((b):Int).toNat)] (by rfl) rfl rfl qq_16 ?_;with_reducible refine(Qbf.calls k 0 (a.extract 0 ((b):Int).toNat) d _ t.out).mono ?_
      rintro e O ⟨rfl,hb⟩;refine⟨_,rfl,?_⟩;have n_:=qn1 (Qfj qq_b hb);clear HB;have HB:=n_;clear n_
      (try clear hb)
      (try clear hb2)
      (try clear hk)
      (try clear hi)
      refine hK.out _ _ trivial (fun j=>?_);clear hK K;refine nzp_ 27 ?_;refine pz_ (i:=8) (N:=some 28) (bm 9 511) (Qhk HT_.out qq_7) ?_;refine Qgh (Qhn HT_.out qq_7) ?_
      try go_wp2
      go_ret2
      exact⟨by first|rfl |(simp[Qio,Qip]<;>rfl) |(simp only[← hji6];first|rfl |(simp[Qio,Qip]<;>rfl)) |(simp[*,Qio,Qip]<;>rfl),qq_b⟩
    ·rw[if_neg c8]at H;exact absurd H (by simp)
   ·rw[if_neg c7]at H;exact absurd H (by simp)
 ·rw[if_neg c3]at H;have u:(g == 0)=false:=beq_eq_false_iff_ne.mpr c3;have v:(g != 0)=true:=bne_iff_ne.mpr c3;simp only[Option.some.injEq,Prod.mk.injEq]at H;obtain⟨rfl,rfl⟩:=H
  go_enter Tryz.func135,Tryz.ntmps135
  go_wp2_with (first |((with_reducible refine Qij (f:=186) rfl ?_);refine Qgm (some 9) rfl rfl Tryz.func186 qq_7 rfl #[.string a0] rfl qq_1 ?_;(with_reducible refine(Qbl.calls k a0 a g _ A2.out).mono ?_);rintro e P ⟨rfl,hb⟩;refine⟨_,rfl,?_⟩;have n_:=qn1 (Qfj qq_b hb);clear HB;have HB:=n_;clear n_;(try clear hb);(try clear hb2);(try clear hk);(try clear hi)))
  go_ret2
  exact⟨qq_2,qq_b⟩
def Qbm.f(k:Nat)(a0_0:Bool)(a0_1:Int)(a0_2:ByteArray)(a0_3:ByteArray):Option (ByteArray):=if a0_0=true then((Qbd.f k a0_1).bind fun t300=>(if 1+t300.size≤9223372036854775807 then((Qbe.f k a0_2).bind fun t301=>(if((⟨#[3]⟩:ByteArray)++t300).size+t301.size≤9223372036854775807 then(some (((⟨#[3]⟩:ByteArray)++t300)++t301))else(none)))else(none)))else((Qbd.f k a0_1).bind fun t302=>(if 1+t302.size≤9223372036854775807 then((Qbe.f k a0_2).bind fun t303=>(if((⟨#[2]⟩:ByteArray)++t302).size+t303.size≤9223372036854775807 then((Qbe.f k a0_3).bind fun t304=>(if(((⟨#[2]⟩:ByteArray)++t302)++t303).size+t304.size≤9223372036854775807 then(some ((((⟨#[2]⟩:ByteArray)++t302)++t303)++t304))else(none)))else(none)))else(none)))
def Qbm.T2:Bool × List (List Nat × List Nat):=(true,[([],[]),([0],[0]),([1],[1]),([2],[2]),([],[]),([4],[4]),([5,2],[5]),([3,6],[3,6]),([7,6,0,1,2,3,4,5,6,7],[7])])
def Qbm.B2:List Nat:=[0,1,3,7,0,16,55,127,255]
theorem Qbm.tab2:rtab .any (Qhu Tryz.f62 2)=Qbm.T2:=by kernel_rfl
theorem Qbm.bits2:Qho Qbm.T2.2 Qbm.B2=true:=by kernel_rfl
def Qbm.T3:Bool × List (List Nat × List Nat):=(true,[([],[]),([0],[0]),([1],[1]),([2],[2]),([],[]),([4],[4]),([5,2],[5]),([3,6],[3,6]),([],[]),([8],[8]),([9,6],[9]),([7,10],[7,10]),([11,10,0,1,2,3,4,5,6,7,8,9,10,11],[11])])
def Qbm.B3:List Nat:=[0,1,3,7,0,16,55,127,0,256,887,2047,4095]
theorem Qbm.tab3:rtab .any (Qhu Tryz.f62 3)=Qbm.T3:=by kernel_rfl
theorem Qbm.bits3:Qho Qbm.T3.2 Qbm.B3=true:=by kernel_rfl
theorem Qbm.calls(k:Nat)(u:Bool)(c:Int)(d:ByteArray)(l:ByteArray)(r:ByteArray)(w:World)(h:Qbm.f k u c d l=some r) :
  Calls Tryz.prog 62 #[.agg #[.bool u,.int .u64 c,.string d,.string l]] w fun e w'=>e=.returned (.string r)∧Below w.heap.size w w':=by
 have hu39:=Tryz.underlying39;have HB:=QA (Below.refl w.heap.size w);have H:(if u=true then((Qbd.f k c).bind fun p=>(if 1+p.size≤9223372036854775807 then((Qbe.f k d).bind fun s=>(if((⟨#[3]⟩:ByteArray)++p).size+s.size≤9223372036854775807 then(some (((⟨#[3]⟩:ByteArray)++p)++s))else(none)))else(none)))else((Qbd.f k c).bind fun m=>(if 1+m.size≤9223372036854775807 then((Qbe.f k d).bind fun q=>(if((⟨#[2]⟩:ByteArray)++m).size+q.size≤9223372036854775807 then((Qbe.f k l).bind fun t=>(if(((⟨#[2]⟩:ByteArray)++m)++q).size+t.size≤9223372036854775807 then(some ((((⟨#[2]⟩:ByteArray)++m)++q)++t))else(none)))else(none)))else(none))))=some r:=h;clear h
 by_cases c2:u=true
 ·subst c2;rw[if_pos rfl]at H;obtain⟨p,T,H⟩:=Option.bind_eq_some_iff.mp H;have A3:=QA T;clear T
  by_cases c4:1+p.size≤9223372036854775807
  ·rw[if_pos c4]at H;have au:=eq_true c4;have av:=decide_eq_true c4
   try have aw:(9223372036854775807<1+p.size)=False:=eq_false (Nat.not_lt.2 c4)
   obtain⟨s,U,H⟩:=Option.bind_eq_some_iff.mp H;have A5:=QA U;clear U
   by_cases c6:((⟨#[3]⟩:ByteArray)++p).size+s.size≤9223372036854775807
   ·rw[if_pos c6]at H;have ax:=eq_true c6;have ay:=decide_eq_true c6
    try have B:(9223372036854775807<((⟨#[3]⟩:ByteArray)++p).size+s.size)=False:=eq_false (Nat.not_lt.2 c6)
    try have W:=B
    try simp only[ByteArray.size_append,(show ∀x_:UInt8,(⟨#[x_]⟩:ByteArray).size=1 from fun _=>rfl),(show ∀x_ y_:UInt8,(⟨#[x_,y_]⟩:ByteArray).size=2 from fun _ _=>rfl)]at W
    try have X:=B
    try simp only[ByteArray.size_append,ByteArray.size_extract,(show ∀x_:UInt8,(⟨#[x_]⟩:ByteArray).size=1 from fun _=>rfl),(show ∀x_ y_:UInt8,(⟨#[x_,y_]⟩:ByteArray).size=2 from fun _ _=>rfl)]at X
    obtain rfl:=Option.some.inj H
    go_enter Tryz.func62,Tryz.ntmps62
    try go_wp2_with (first |((with_reducible refine Qft (N:=1) rfl ?_);refine qq_e 1 #[.bool true,.int .u64 c,.string d,.string l] 39 ?_;intro b hg w7 hbox hb;have n_:=qn4 (Qfj qq_b hb) (hbox) (qq_s hg:w.heap.size≤b) (qq_s hg:w.heap.size≤b);clear HB;obtain⟨HB,a,I,J⟩:=n_;clear hb hbox hg;obtain⟨ac,ad,ae,af⟩:=qc4 a.out;have az:=Qdw a.out))
    have n_:=qn2 (Qeg a.out) (Qfq HB.out);clear a HB;obtain⟨a,HB⟩:=n_;refine Qge (n:=9) (S:=fun w'=>w'.cell? ⟨b,0,none⟩=some (.bool true)∧w'.cell? ⟨b,1,none⟩=some (.int .u64 c)∧w'.cell? ⟨b,2,none⟩=some (.string d)∧w'.cell? ⟨b,3,none⟩=some (.string l)) (ds:=[]) (bm 9 0) qq_7 rfl rfl ⟨(Qdv a.out 0).trans rfl,(Qdv a.out 1).trans rfl,(Qdv a.out 2).trans rfl,(Qdv a.out 3).trans rfl⟩ (fun j=>?_);refine Qhs Qbm.tab2 Qbm.bits2 (fun HT_ HW_=>?_);generalize w7.drew=w9 at a HB j ⊢;refine pz_ (i:=0) (N:=some 5) (bm 9 1) (Qhk HT_.out qq_7) ?_;refine pz_ (i:=4) (N:=some 9) (bm 9 17) (Qhk HT_.out qq_7) ?_;refine tz_ (i:=1) (N:=some 6) (bm 9 19) (Qhr HT_.out HW_.out qq_7) j ?_;refine tz_ (i:=5) (N:=some 10) (bm 9 51) (Qhr HT_.out HW_.out qq_7) j ?_;refine one_ (i:=2) (N:=some 7) (bm 9 55) rfl rfl (Qhl HT_.out qq_7) (by decide) (fun K hK=>?_);refine Qgl Tryz.func98 qq_7 rfl #[.int .u64 c] (by rfl) rfl rfl qq_1 ?_;with_reducible refine(Qbd.calls k c p _ A3.out).mono ?_
    rintro e aA ⟨rfl,hb⟩;refine⟨_,rfl,?_⟩;have n_:=qn2 (Qei (g:=b) (o:=.cells #[.bool true,.int .u64 c,.string d,.string l] 39 (0,0)) qq_0 hb) (Qfj qq_b hb);clear a HB;obtain⟨a,HB⟩:=n_
    (try clear hb)
    (try clear hb2)
    (try clear hk)
    (try clear hi)
    refine hK.out _ _ ⟨(Qdv a.out 0).trans rfl,(Qdv a.out 1).trans rfl,(Qdv a.out 2).trans rfl,(Qdv a.out 3).trans rfl⟩ (fun j=>?_);clear hK K;refine nzp_ 7 ?_;refine pz_ (i:=3) (N:=some 8) (bm 9 63) (Qhk HT_.out qq_7) ?_;refine one_ (i:=6) (N:=some 11) (bm 9 127) rfl rfl (Qhl HT_.out qq_7) (by decide) (fun K hK=>?_);refine Qgl Tryz.func104 qq_7 rfl #[.string d] (by rfl) rfl rfl qq_1 ?_;with_reducible refine(Qbe.calls k d s _ A5.out).mono ?_
    rintro e aB ⟨rfl,hb⟩;refine⟨_,rfl,?_⟩;have n_:=qn2 (Qei (g:=b) (o:=.cells #[.bool true,.int .u64 c,.string d,.string l] 39 (0,0)) qq_0 hb) (Qfj qq_b hb);clear a HB;obtain⟨a,HB⟩:=n_
    (try clear hb)
    (try clear hb2)
    (try clear hk)
    (try clear hi)
    refine hK.out _ _ ⟨(Qdv a.out 0).trans rfl,(Qdv a.out 1).trans rfl,(Qdv a.out 2).trans rfl,(Qdv a.out 3).trans rfl⟩ (fun j=>?_);clear hK K;refine nzp_ 11 ?_;refine pz_ (i:=7) (N:=some 12) (bm 9 255) (Qhk HT_.out qq_7) ?_;refine pz_ (i:=8) (N:=some 2) (bm 9 511) (Qhk HT_.out qq_7) ?_;refine Qgh (Qhn HT_.out qq_7) ?_
    try go_wp2
    go_ret
    exact⟨qq_2,qq_b⟩
   ·rw[if_neg c6]at H;exact absurd H (by simp)
  ·rw[if_neg c4]at H;exact absurd H (by simp)
 ·replace c2:=Bool.eq_false_iff.mpr c2;subst c2;rw[if_neg (show ¬(false=true)by decide)]at H;obtain⟨m,D,H⟩:=Option.bind_eq_some_iff.mp H;have ag:=QA D;clear D
  by_cases v:1+m.size≤9223372036854775807
  ·rw[if_pos v]at H;have ak:=eq_true v;have al:=decide_eq_true v
   try have am:(9223372036854775807<1+m.size)=False:=eq_false (Nat.not_lt.2 v)
   obtain⟨q,E,H⟩:=Option.bind_eq_some_iff.mp H;have ah:=QA E;clear E
   by_cases x:((⟨#[2]⟩:ByteArray)++m).size+q.size≤9223372036854775807
   ·rw[if_pos x]at H;have an:=eq_true x;have ao:=decide_eq_true x
    try have z:(9223372036854775807<((⟨#[2]⟩:ByteArray)++m).size+q.size)=False:=eq_false (Nat.not_lt.2 x)
    try have L:=z
    try simp only[ByteArray.size_append,(show ∀x_:UInt8,(⟨#[x_]⟩:ByteArray).size=1 from fun _=>rfl),(show ∀x_ y_:UInt8,(⟨#[x_,y_]⟩:ByteArray).size=2 from fun _ _=>rfl)]at L
    try have M:=z
    try simp only[ByteArray.size_append,ByteArray.size_extract,(show ∀x_:UInt8,(⟨#[x_]⟩:ByteArray).size=1 from fun _=>rfl),(show ∀x_ y_:UInt8,(⟨#[x_,y_]⟩:ByteArray).size=2 from fun _ _=>rfl)]at M
    obtain⟨t,G,H⟩:=Option.bind_eq_some_iff.mp H;have ai:=QA G;clear G
    by_cases y:(((⟨#[2]⟩:ByteArray)++m)++q).size+t.size≤9223372036854775807
    ·rw[if_pos y]at H;have ap:=eq_true y;have aq:=decide_eq_true y
     try have A:(9223372036854775807<(((⟨#[2]⟩:ByteArray)++m)++q).size+t.size)=False:=eq_false (Nat.not_lt.2 y)
     try have O:=A
     try simp only[ByteArray.size_append,(show ∀x_:UInt8,(⟨#[x_]⟩:ByteArray).size=1 from fun _=>rfl),(show ∀x_ y_:UInt8,(⟨#[x_,y_]⟩:ByteArray).size=2 from fun _ _=>rfl)]at O
     try have P:=A
     try simp only[ByteArray.size_append,ByteArray.size_extract,(show ∀x_:UInt8,(⟨#[x_]⟩:ByteArray).size=1 from fun _=>rfl),(show ∀x_ y_:UInt8,(⟨#[x_,y_]⟩:ByteArray).size=2 from fun _ _=>rfl)]at P
     obtain rfl:=Option.some.inj H
     go_enter Tryz.func62,Tryz.ntmps62
     try go_wp2_with (first |((with_reducible refine Qft (N:=1) rfl ?_);refine qq_e 1 #[.bool false,.int .u64 c,.string d,.string l] 39 ?_;intro b hg aj hbox hb;have n_:=qn4 (Qfj qq_b hb) (hbox) (qq_s hg:w.heap.size≤b) (qq_s hg:w.heap.size≤b);clear HB;obtain⟨HB,a,I,J⟩:=n_;clear hb hbox hg;obtain⟨Y,Z,aa,ab⟩:=qc4 a.out;have ar:=Qdw a.out))
     have n_:=qn2 (Qeg a.out) (Qfq HB.out);clear a HB;obtain⟨a,HB⟩:=n_;refine Qge (n:=13) (S:=fun w'=>w'.cell? ⟨b,0,none⟩=some (.bool false)∧w'.cell? ⟨b,1,none⟩=some (.int .u64 c)∧w'.cell? ⟨b,2,none⟩=some (.string d)∧w'.cell? ⟨b,3,none⟩=some (.string l)) (ds:=[]) (bm 13 0) qq_7 rfl rfl ⟨(Qdv a.out 0).trans rfl,(Qdv a.out 1).trans rfl,(Qdv a.out 2).trans rfl,(Qdv a.out 3).trans rfl⟩ (fun j=>?_);refine Qhs Qbm.tab3 Qbm.bits3 (fun HT_ HW_=>?_);generalize aj.drew=w20 at a HB j ⊢;refine pz_ (i:=0) (N:=some 13) (bm 13 1) (Qhk HT_.out qq_7) ?_;refine pz_ (i:=4) (N:=some 17) (bm 13 17) (Qhk HT_.out qq_7) ?_;refine pz_ (i:=8) (N:=some 21) (bm 13 273) (Qhk HT_.out qq_7) ?_;refine tz_ (i:=1) (N:=some 14) (bm 13 275) (Qhr HT_.out HW_.out qq_7) j ?_;refine tz_ (i:=5) (N:=some 18) (bm 13 307) (Qhr HT_.out HW_.out qq_7) j ?_;refine tz_ (i:=9) (N:=some 22) (bm 13 819) (Qhr HT_.out HW_.out qq_7) j ?_;refine one_ (i:=2) (N:=some 15) (bm 13 823) rfl rfl (Qhl HT_.out qq_7) (by decide) (fun K hK=>?_);refine Qgl Tryz.func98 qq_7 rfl #[.int .u64 c] (by rfl) rfl rfl qq_1 ?_;with_reducible refine(Qbd.calls k c m _ ag.out).mono ?_
     rintro e aC ⟨rfl,hb⟩;refine⟨_,rfl,?_⟩;have n_:=qn2 (Qei (g:=b) (o:=.cells #[.bool false,.int .u64 c,.string d,.string l] 39 (0,0)) qq_0 hb) (Qfj qq_b hb);clear a HB;obtain⟨a,HB⟩:=n_
     (try clear hb)
     (try clear hb2)
     (try clear hk)
     (try clear hi)
     refine hK.out _ _ ⟨(Qdv a.out 0).trans rfl,(Qdv a.out 1).trans rfl,(Qdv a.out 2).trans rfl,(Qdv a.out 3).trans rfl⟩ (fun j=>?_);clear hK K;refine nzp_ 15 ?_;refine pz_ (i:=3) (N:=some 16) (bm 13 831) (Qhk HT_.out qq_7) ?_;refine one_ (i:=6) (N:=some 19) (bm 13 895) rfl rfl (Qhl HT_.out qq_7) (by decide) (fun K hK=>?_);refine Qgl Tryz.func104 qq_7 rfl #[.string d] (by rfl) rfl rfl qq_1 ?_;with_reducible refine(Qbe.calls k d q _ ah.out).mono ?_
     rintro e aD ⟨rfl,hb⟩;refine⟨_,rfl,?_⟩;have n_:=qn2 (Qei (g:=b) (o:=.cells #[.bool false,.int .u64 c,.string d,.string l] 39 (0,0)) qq_0 hb) (Qfj qq_b hb);clear a HB;obtain⟨a,HB⟩:=n_
     (try clear hb)
     (try clear hb2)
     (try clear hk)
     (try clear hi)
     refine hK.out _ _ ⟨(Qdv a.out 0).trans rfl,(Qdv a.out 1).trans rfl,(Qdv a.out 2).trans rfl,(Qdv a.out 3).trans rfl⟩ (fun j=>?_);clear hK K;refine nzp_ 19 ?_;refine pz_ (i:=7) (N:=some 20) (bm 13 1023) (Qhk HT_.out qq_7) ?_;refine one_ (i:=10) (N:=some 23) (bm 13 2047) rfl rfl (Qhl HT_.out qq_7) (by decide) (fun K hK=>?_);refine Qgl Tryz.func104 qq_7 rfl #[.string l] (by rfl) rfl rfl qq_1 ?_;with_reducible refine(Qbe.calls k l t _ ai.out).mono ?_
     rintro e aE ⟨rfl,hb⟩;refine⟨_,rfl,?_⟩;have n_:=qn2 (Qei (g:=b) (o:=.cells #[.bool false,.int .u64 c,.string d,.string l] 39 (0,0)) qq_0 hb) (Qfj qq_b hb);clear a HB;obtain⟨a,HB⟩:=n_
     (try clear hb)
     (try clear hb2)
     (try clear hk)
     (try clear hi)
     refine hK.out _ _ ⟨(Qdv a.out 0).trans rfl,(Qdv a.out 1).trans rfl,(Qdv a.out 2).trans rfl,(Qdv a.out 3).trans rfl⟩ (fun j=>?_);clear hK K;refine nzp_ 23 ?_;refine pz_ (i:=11) (N:=some 24) (bm 13 4095) (Qhk HT_.out qq_7) ?_;refine pz_ (i:=12) (N:=some 2) (bm 13 8191) (Qhk HT_.out qq_7) ?_;refine Qgh (Qhn HT_.out qq_7) ?_
     try go_wp2
     go_ret
     exact⟨qq_2,qq_b⟩
    ·rw[if_neg y]at H;exact absurd H (by simp)
   ·rw[if_neg x]at H;exact absurd H (by simp)
  ·rw[if_neg v]at H;exact absurd H (by simp)
def Qbr.f(k:Nat)(a0:ByteArray):Option (ByteArray):=(Qbf.f k 0 a0).bind fun t289=>((Qay.f k t289 8).bind fun t290=>(if a0.size+t290.size≤9223372036854775807 then((Qbk.f k (a0++t290)).bind fun t291=>(if t291.size+1≤9223372036854775807 then(some (t291++(⟨#[0]⟩:ByteArray)))else(none)))else(none)))
theorem Qbr.calls(k:Nat)(a0:ByteArray)(r:ByteArray)(w:World)(h:Qbr.f k a0=some r) :
  Calls Tryz.prog 61 #[.string a0] w fun e w'=>e=.returned (.string r)∧Below w.heap.size w w':=by
 have HB:=QA (Below.refl w.heap.size w);have H:((Qbf.f k 0 a0).bind fun c=>((Qay.f k c 8).bind fun a=>(if a0.size+a.size≤9223372036854775807 then((Qbk.f k (a0++a)).bind fun b=>(if b.size+1≤9223372036854775807 then(some (b++(⟨#[0]⟩:ByteArray)))else(none)))else(none))))=some r:=h;clear h;obtain⟨c,d,H⟩:=Option.bind_eq_some_iff.mp H;have A2:=QA d;clear d;obtain⟨a,g,H⟩:=Option.bind_eq_some_iff.mp H;have A3:=QA g;clear g
 by_cases c4:a0.size+a.size≤9223372036854775807
 ·rw[if_pos c4]at H;have l:=eq_true c4;have m:=decide_eq_true c4
  try have n:(9223372036854775807<a0.size+a.size)=False:=eq_false (Nat.not_lt.2 c4)
  obtain⟨b,j,H⟩:=Option.bind_eq_some_iff.mp H;have A5:=QA j;clear j
  by_cases c6:b.size+1≤9223372036854775807
  ·rw[if_pos c6]at H;have o:=eq_true c6;have p:=decide_eq_true c6
   try have q:(9223372036854775807<b.size+1)=False:=eq_false (Nat.not_lt.2 c6)
   obtain rfl:=Option.some.inj H
   go_enter Tryz.func61,Tryz.ntmps61
   go_wp2_with (first |((with_reducible refine Qij (f:=65) rfl ?_);refine Qgm (some 5) rfl rfl Tryz.func65 qq_7 rfl #[.int .u64 0,.string a0] rfl qq_1 ?_;(with_reducible refine(Qbf.calls k 0 a0 c _ A2.out).mono ?_);rintro e w7 ⟨rfl,hb⟩;refine⟨_,rfl,?_⟩;have n_:=qn1 (Qfj qq_b hb);clear HB;have HB:=n_;clear n_;(try clear hb);(try clear hb2);(try clear hk);(try clear hi)) |((with_reducible refine Qij (f:=103) rfl ?_);refine Qgm (some 6) rfl rfl Tryz.func103 qq_7 rfl #[.int .u64 c,.int .i64 8] rfl qq_1 ?_;(with_reducible refine(Qay.calls k c 8 a _ A3.out).mono ?_);rintro e w8 ⟨rfl,hb⟩;refine⟨_,rfl,?_⟩;have n_:=qn1 (Qfj qq_b hb);clear HB;have HB:=n_;clear n_;(try clear hb);(try clear hb2);(try clear hk);(try clear hi)) |((with_reducible refine Qij (f:=102) rfl ?_);refine Qgm (some 8) rfl rfl Tryz.func102 qq_7 rfl #[.string (a0++a)] rfl qq_1 ?_;(with_reducible refine(Qbk.calls k (a0++a) b _ A5.out).mono ?_);rintro e w9 ⟨rfl,hb⟩;refine⟨_,rfl,?_⟩;have n_:=qn1 (Qfj qq_b hb);clear HB;have HB:=n_;clear n_;(try clear hb);(try clear hb2);(try clear hk);(try clear hi)))
   go_ret
   exact⟨qq_2,qq_b⟩
  ·rw[if_neg c6]at H;exact absurd H (by simp)
 ·rw[if_neg c4]at H;exact absurd H (by simp)
end Go.Proofs.YtnnofopfbeklbaaGreat.C
end
