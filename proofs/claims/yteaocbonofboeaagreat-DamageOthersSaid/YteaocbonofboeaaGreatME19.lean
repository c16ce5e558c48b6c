/- Merged texts. -/
import Derived.Test.YteaocbonofboeaaGreatME02
import Derived.RangeFuncNested
import Derived.RangeFuncBound
import Derived.RangeFuncCalls
import Derived.RangeFuncLeaves
import Derived.Shelf.Abstract
import Derived.Shelf.RegionOpen
import Derived.OwnWalkIn
import Derived.TacticsInMore
import Derived.LoopNIn
import Derived.LoopIn
import Derived.Test.YteaocbonofboeaaGreatME18
import Derived.Test.YteaocbonofboeaaGreatME07
set_option linter.unusedVariables false
set_option linter.unusedSimpArgs false
set_option maxHeartbeats 8000000
set_option maxRecDepth 100000
section
namespace Go.Proofs.YteaocbonofboeaaGreat.C
open Go.RowKit Go.Proofs.YteaocbonofboeaaGreatW.PrintWords Go.Proofs.YteaocbonofboeaaGreatW.PrintLast Go.Proofs.YteaocbonofboeaaGreatW.PrintMore
open Go.Shelf
attribute [local go_sem] Oper.semAt_some Qie Qif Qig Qih
def chN(n:Nat):Nat:=(n+15)/16
def chV(ad:Addr)(n k:Nat):Value:=.slice (some (ad.add (k*16*2))) (min 16 (n-k*16)) (min 16 (n-k*16))
theorem infoE:∃i,Tryz.prog.info? 129=some i∧i.size=2:=by
 obtain⟨i0,hi,hzz⟩:=Option.map_eq_some_iff.1 Qnk;simp only[Prod.mk.injEq]at hzz;exact⟨i0,hi,hzz.2.1⟩
theorem Qnq{k m:Nat}(h:k≤m):List.range k <+: List.range m:=by
 refine⟨(List.range (m-k)).map (k+·),?_⟩;have:=@List.range_add k (m-k);rw[show k+(m-k)=m by omega]at this;exact this.symm
theorem Qnr(F:Fence)(n:Nat)(hf:F.fn 205)(hro:F.round=none)(hn:1≤n)(l Bs Bn n₀:Nat)(ad:Addr)(m c0:Nat)(w0:World)(hc:m≤c0)(hm:m≤1099511627776)(d:n₀=w0.heap.size)(Kp:World→World→Prop)(hKc:∀A B b,Kp A B→(b=Bs∨b=Bn)→B.cell? ⟨b,0,none⟩=A.cell? ⟨b,0,none⟩)(enc:Nat→Value)(henc:∀k,k<chN m→enc k=chV ad m k)(J Jx:List Nat→World→Prop)
  (hJd:∀pre W q,J pre W→J pre (W.drewN q)) (hY:∀pre x W,J pre W→pre.length<chN m→YieldAt F (n-1) Tryz.prog l #[enc x] W fun e W' =>
   (e=.returned (.bool true)∧J (pre++[x]) W'∧Kp W W')∨(e=.returned (.bool false)∧Jx (pre++[x]) W'))
  (W:World) (hBs0:w0.cell? ⟨Bs,0,none⟩=some (.slice (some ad) m c0)) (hBn0:w0.cell? ⟨Bn,0,none⟩=some (.int .i64 16)) (hw:Below n₀ w0 W) (h0:J [] W) :
  CallsIn F n Tryz.prog 205 #[.func (.yield l) #[] #[],.pointer (some ⟨Bs,0,none⟩),.pointer (some ⟨Bn,0,none⟩)] W fun e W'=>(∃v,e=.returned v) ∧
   ((∃ys,ys=List.range (chN m)∧J ys W')∨(∃pre,pre <+: List.range (chN m)∧Jx pre W')):=by
 have keep0:∀ {W:World} {a:Addr} {v:Value},Below n₀ w0 W→w0.cell? a=some v→W.cell? a=some v:=fun {W a v} hb h=>(hb.cell (by have:=World.block_lt_of_cell? w0 _ h;omega)).trans h
 have hBs:W.cell? ⟨Bs,0,none⟩=some (.slice (some ad) m c0):=keep0 hw hBs0;have hBn:W.cell? ⟨Bn,0,none⟩=some (.int .i64 16):=keep0 hw hBn0;refine callsIn_of_wp Tryz.func205 rfl hf ?_ hro;simp only[Tryz.ntmps205,List.size_toArray,List.length_cons,List.length_nil,Nat.reduceAdd,Nat.reduceSub,Array.replicate_succ,Array.replicate_zero,List.push_toArray,List.append_toArray,List.nil_append,List.cons_append]
 gi_wp2
 gi_loopw [4] (fun i wr=>∃(k:Nat) (iv:Int),k≤chN m∧i=.int .i64 iv∧Aside0 (iv=(k:Int)*16)∧J (List.range k) wr∧wr.cell? ⟨Bs,0,none⟩=some (.slice (some ad) m c0)∧wr.cell? ⟨Bn,0,none⟩=some (.int .i64 16))
  (fun i _=>((m:Int)+16-intOf i).toNat)
 case atStart=>exact⟨0,_,Nat.zero_le _,rfl,⟨by simp⟩,by simpa using h0,hBs,hBn⟩
 case round =>
  obtain⟨k,iv,hk,rfl,HI,hJs,hcs,hcn⟩:=hrel
  by_cases hlt:iv<(m:Int)
  ·have hkm:k*16<m:=by have:=HI.out;omega
   have hk2:k<chN m:=by unfold chN;omega
   have h0:0≤iv:=by have:=HI.out;omega
   have hb1:decide (iv<(m:Int))=true:=decide_eq_true hlt;have hivn:iv.toNat=k*16:=by have:=HI.out;omega
   obtain⟨A',n',c',hn',hhd⟩:∃(A':Option Addr) (n' c':Nat),n'=m-k*16∧∀W:World,(Instr.slice 120 (.slice (some ad) m c0) (some (.int .i64 iv)) none none).run Tryz.prog W=.ok (.slice A' n' c') W:=by
    obtain⟨i0,hi,hsz⟩:=infoE;have h:=Qeu (P:=Tryz.prog) 120 129 .i64 Tryz.underlying120 hi 2 hsz (some ad) m c0 iv h0 (by omega);exact⟨_,_,_,by rw[hivn],h⟩
   obtain⟨e,he⟩:∃e:Int,e=((min 16 (m-k*16):Nat):Int):=⟨_,rfl⟩;have he0:0≤e:=by omega
   obtain⟨hi,hhi⟩:∃hi:Int,hi=iv+e:=⟨_,rfl⟩;have hch:∀W:World,(Instr.slice 120 (.slice (some ad) m c0) (some (.int .i64 iv)) (some (.int .i64 hi)) (some (.int .i64 hi))).run Tryz.prog W=.ok (chV ad m k) W:=by
    intro W;obtain⟨i0,hii,hsz⟩:=infoE;have hel:Tryz.prog.elem 120=129:=by simp[Program.elem,Tryz.underlying120]
    have hu:Tryz.prog.underlying 120=some (.slice (Tryz.prog.elem 120)):=by rw[hel];exact Tryz.underlying120
    rw[run_slice_lhm W 120 (some ad) m c0 hu .i64 .i64 .i64 iv hi hi h0 (by omega) (by omega) (by have:=HI.out;omega),hel];have hsz2:(hi.toNat-iv.toNat)=min 16 (m-k*16):=by omega
    have hne:¬hi.toNat-iv.toNat=0:=by omega
    simp[sizeOf,typeInfo,hii,hsz,sliced,Result.andThen,chV,hivn];omega
   have hwr:IntKind.i64.wrap (iv+e)=hi:=by rw[IntWalk.i64_in _ (by have:=HI.out;omega)];exact hhi.symm
   obtain⟨jv,hj⟩:∃jv:Int,jv=iv+16:=⟨_,rfl⟩;have hwn:IntKind.i64.wrap (iv+16)=jv:=by rw[IntWalk.i64_in _ (by have:=HI.out;omega)];exact hj.symm
   have hjm:jv≤(m:Int)+16:=by omega
   have hjp:iv<jv:=by omega
   have hmin:((n':Int)<16∧e=(n':Int))∨(¬(n':Int)<16∧e=16∧jv=hi):=by omega
   have HJ:=QA hj;have HE:=QA he;have HH:=QA hhi;have HN:=QA hn';have hlt2:iv+16≤(m:Int)+16:=by omega
   have HK:=QA hkm;have hlt2':=hlt2;clear he hhi hn' hivn hkm hj hlt2 hlt2'
   rcases hmin with⟨c,rfl⟩ |⟨c,rfl,rfl⟩
   all_goals
    gi_wp2
    refine wpIn_region_quiet_lit hro qq_4 qq_4 ?_
    repeat(gi_big_quiet_step (fail))
    refine wpQuietIn_nil ?_;intro _ hw';obtain⟨nq,hw''⟩:=hw';subst hw'';obtain⟨fn,tmps,assign,body,hy,hR⟩:=hY _ k (wr.drewN nq) (hJd _ _ _ hJs) (by rw[List.length_range];exact hk2);rw[henc k hk2]at hy
    gi_wp2
    refine hR.mono ?_;rintro e W3 (⟨rfl,hJ3,hk3⟩ |⟨rfl,hJx3⟩)
    ·have hcn3:W3.cell? ⟨Bn,0,none⟩=some (.int .i64 16):=(hKc _ _ _ hk3 (.inr rfl)).trans hcn;have hcs3:W3.cell? ⟨Bs,0,none⟩=some (.slice (some ad) m c0):=(hKc _ _ _ hk3 (.inl rfl)).trans hcs
     gi_wp2
     go_roundw
     case rel=>exact⟨k+1,_,hk2,rfl,⟨by have:=HI.out;have:=HJ.out;omega⟩,by rw[List.range_succ];exact hJ3,hcs3,hcn3⟩
     case measure=>simp[intOf];omega
    ·gi_wp2
     refine bodyPost_ret (results_none rfl _ _ _) rfl ?_;exact⟨⟨_,rfl⟩,.inr ⟨_,by have:=Qnq (k:=k+1) hk2;rw[List.range_succ]at this;exact this,hJx3⟩⟩
  ·have hkm:m≤k*16:=by have:=HI.out;omega
   have hk2:k=chN m:=by unfold chN at hk ⊢;omega
   have hb1:decide (iv<(m:Int))=false:=decide_eq_false hlt
   gi_wp2
   go_end0
   exact⟨⟨_,rfl⟩,.inl (by rw[← hk2];exact hJs)⟩
theorem Qns(F:Fence)(n:Nat)(h5:F.fn 162)(hro:F.round=none)(a:Option Addr)(len cap:Nat)(w:World) :
  CallsIn F n Tryz.prog 162 #[.slice a len cap,.int .i64 16] w fun e w'=>e=.returned (.func (.func 205) #[] #[.pointer (some ⟨w.heap.size,0,none⟩),.pointer (some ⟨w.heap.size+1,0,none⟩)])∧w'=(w.alloc (.cells #[.slice a len cap] 120)).alloc (.cells #[.int .i64 16] 3):=by
 refine callsIn_of_wp Tryz.func162 rfl h5 ?_ hro;simp only[Tryz.ntmps162,List.size_toArray,List.length_cons,List.length_nil,Nat.reduceAdd,Nat.reduceSub,Array.replicate_succ,Array.replicate_zero,List.push_toArray,List.append_toArray,List.nil_append,List.cons_append]
 gi_wp2
 go_ret
 exact⟨rfl,rfl⟩
theorem Qnt{F:Fence}{n:Nat}{P:Program}{ops:Array Oper}{o:Oper}{a:Act}{Q:Exit→Act→World→Prop}{Kc:Act→World→Prop}{W w1:World}{v v1 v2:Value}{s x:Operand}{t:TypeId}
  (hw:Region.wanted o (yielded ops a.tmps)=true) (ho:o.op=.call { callee:=.builtin .append,args:=#[s,x],argTypes:=#[t,t] }) (hs:a.eval s=v) (hx:a.eval x=v2)
  (hrun:(Builtin.append_ #[t,t] o.type #[v,v2]).run P W=.ok v1 w1) (h:Kc (a.put o.dst v1) w1) :
  if Region.wanted o (yielded ops a.tmps)=true then Oper.wpIn F n P o a W Kc Q else(∀f,o.about P W a.eval=some f→F.fn f)∧Kc (a.put o.dst undef) W:=by
 rw[if_pos hw];unfold Oper.wpIn;refine⟨?_,?_⟩
 ·simp[Oper.about,ho,resolve,Target.leads,Sem.run_pure]
 ·rw[Oper.semAt_plain F _ _ (by rw[ho];intro c hc';cases hc')];simp[execOp,ho,resolve,invoke,builtin,hs,hx,hrun,Result.andThen];exact h
abbrev RU(W:World)(b:Nat)(v:Value)(l:List Int):Prop:=Kd.R (Kd.int .u64) 35 W b (fun _=>True) v l
def Qnu(l:List Ent)(k:Nat):Int:=(Qjg l ((k*16:Nat):Int)).f0
def Qnv(l:List Ent):List Int:=(List.range (chN l.length)).map (Qnu l)
def Mid(lo hi:Nat)(A B:World):Prop:=A.heap.size≤B.heap.size∧∀k,lo≤k→k<hi→B.heap[k]? = A.heap[k]?
theorem Mid.trans{lo hi:Nat}{A B C:World}(h:Mid lo hi A B)(k:Mid lo hi B C):Mid lo hi A C:=⟨Nat.le_trans h.1 k.1,fun i h1 h2=>(k.2 i h1 h2).trans (h.2 i h1 h2)⟩
theorem Mid.cell{lo hi:Nat}{A B:World}(h:Mid lo hi A B){b:Nat}(h1:lo≤b)(h2:b<hi):B.cell? ⟨b,0,none⟩=A.cell? ⟨b,0,none⟩:=by simp[World.cell?,h.2 b h1 h2]
theorem Mid.put{lo hi:Nat}(W:World)(l:Nat)(o':Obj)(h:hi≤l):Mid lo hi W (W.putObj l o'):=by
 refine⟨by simp[World.putObj],fun k _ h2=>?_⟩;simp only[World.putObj];rw[Array.getElem?_setIfInBounds_ne (by omega)]
def Outs(l:List Ent)(g b:Nat)(pre:List Nat)(W:World):Prop:=∃v,W.heap[g]? = some (.cells #[v] 93 (0,0))∧RU W b v (pre.map (fun k=>Qnu l (k%chN l.length)))
theorem Qnw(l:List Ent)(g b:Nat):Own (Outs l g b):=by
 intro s X Y row ⟨v,hv,hR⟩ hg hrow;refine⟨v,(hg.block g (Qdq hv) (fun e'=>?_)).trans hv,Kd.R_mono (Kd.R_grown (Kd.R_bound hR) hg (fun k hk e'=>?_)) (fun _ _=>trivial)⟩
 ·obtain⟨o,ho,hc⟩:=hrow g e'.symm;rw[hv]at ho;cases ho;cases hc
 ·obtain⟨o,ho,hc⟩:=hrow k e'.symm;obtain⟨q,_,cells,hk4⟩:=hk.2.2.2;rw[hk4]at ho;cases ho;cases hc
theorem ru_put{W:World}{b D:Nat}{v:Value}{xs:List Int}{o o':Obj}(h:RU W b v xs)(hD:W.heap[D]? = some o)(ho:o.isCells=false):RU (W.putObj D o') b v xs:=by
 refine Kd.R_mono (Kd.R_step (Kd.R_bound h) (fun k hk _=>?_)) (fun _ _=>trivial);obtain⟨q,_,cells,hk4⟩:=hk.2.2.2;have hne:D≠k:=by
  intro e;subst e;rw[hk4]at hD
  cases hD
  cases ho
 simp only[World.putObj];rw[Array.getElem?_setIfInBounds_ne hne]
theorem Qnx (F:Fence) (n:Nat) (h3:F.fn 113) (h4:F.fn 162) (h5:F.fn 205) (hro:F.round=none) (hn:3≤n) (ad:Addr) (c0 m:Nat) (l:List Ent) (w:World) (hmm:m=l.length) (hr0:Kd.C k129 w (some ad) m l) (hc:m≤c0) (hm:m≤1099511627776) :
  CallsIn F n Tryz.prog 113 #[.slice (some ad) m c0] w fun e w'=>(∃v,e=.returned v∧RU w' w.heap.size v (Qnv l))∧Below w.heap.size w w':=by
 have h1:1≤n:=by omega
 have hu:=Tryz.underlying129;have HMM:=QA hmm;clear hmm;refine callsIn_of_wp_marks Tryz.func113 rfl h3 ?_ hro;simp only[Tryz.ntmps113,List.size_toArray,List.length_cons,List.length_nil,Nat.reduceAdd,Nat.reduceSub,Array.replicate_succ,Array.replicate_zero,List.push_toArray,List.append_toArray,List.nil_append,List.cons_append]
 gi_wp2_with (gi_at_call 162;refine(Qns F (n-1) h4 hro _ _ _ _).mono ?_;rintro e w' ⟨rfl,rfl⟩)
 have hB0:Below w.heap.size w (((w.alloc (.cells #[.slice none 0 0] 93)).alloc (.cells #[.slice (some ad) m c0] 120)).alloc (.cells #[.int .i64 16] 3)):=(((Below.refl _ w).alloc (Nat.le_refl _) _).alloc (by simp) _).alloc qq_30 _;have b0:=Qed (Qed (Qeh w (.cells #[.slice none 0 0] 93)) (.cells #[.slice (some ad) m c0] 120)) (.cells #[.int .i64 16] 3);have b1:=Qed (Qeh (w.alloc (.cells #[.slice none 0 0] 93)) (.cells #[.slice (some ad) m c0] 120)) (.cells #[.int .i64 16] 3);have b2:=Qeh ((w.alloc (.cells #[.slice none 0 0] 93)).alloc (.cells #[.slice (some ad) m c0] 120)) (.cells #[.int .i64 16] 3);have hsz:(((w.alloc (.cells #[.slice none 0 0] 93)).alloc (.cells #[.slice (some ad) m c0] 120)).alloc (.cells #[.int .i64 16] 3)).heap.size=w.heap.size+3:=by simp
 simp only[World.size_alloc]at b1 b2;obtain⟨W0,hW0⟩:∃W0,((w.alloc (.cells #[.slice none 0 0] 93)).alloc (.cells #[.slice (some ad) m c0] 120)).alloc (.cells #[.int .i64 16] 3)=W0:=⟨_,rfl⟩;rw[hW0]at b0 b1 b2 hB0 hsz ⊢;clear hW0;have hRn:Outs l w.heap.size W0.heap.size [] W0:=⟨_,b0,Kd.R_nil _ _ _ _ _⟩;refine wpIn_rangeFunc_ownH hro h1 (gf:=205) (lb:=#[.pointer (some ⟨w.heap.size+1,0,none⟩),.pointer (some ⟨w.heap.size+1+1,0,none⟩)]) rfl h5 (enters_of Tryz.func205 qq_4 rfl)
  (encs:=fun x:Nat=>#[chV ad m (x%chN m)]) (Kp:=Mid (w.heap.size+1) W0.heap.size) (S:=fun ys=>ys=List.range (chN m)) (Sp:=fun pre=>pre <+: List.range (chN m)) (N:=chN m) (w0:=W0)
  (fun l J Jx W hW hJ _ hY h0=>Qnr F (n-1) h5 hro (by omega) l (w.heap.size+1) (w.heap.size+1+1) W0.heap.size ad m c0 W0 hc hm rfl (Mid (w.heap.size+1) W0.heap.size) (fun A B b h e=>by rcases e with rfl|rfl<;>exact Mid.cell h (by omega) (by omega)) _ (fun k hk=>by rw[Nat.mod_eq_of_lt hk]) J Jx (fun pre W q hp=>hJ pre W _ none hp ⟨rfl,rfl,rfl,Nat.le_refl _,fun _ _ _=>rfl⟩ (fun r e=>by cases e)) hY W ((Qdr b1 0).trans rfl) ((Qdr b2 0).trans rfl) hW h0)
  Mid.trans (fun W l o o' h1 _ _ _=>Mid.put W l o' h1) (Below.refl _ _) (fun _=>rfl)
  (fun pre W=>Outs l w.heap.size W0.heap.size pre W∧Below w.heap.size w W∧W0.heap.size≤W.heap.size)
  (fun c pre W=>False)
  (OwnFrom.and (Own.from (Qnw l w.heap.size W0.heap.size) _) (OwnFrom.and (ownFrom_below (by omega) (by omega)) (fun _ _ _ _ h hg _=>Nat.le_trans h hg.size)))
  (fun c=>fun _ _ _ _ h _ _=>h)
  ⟨hRn,hB0,Nat.le_refl _⟩
  (fun x a' W=>a'={ tmps:=#[.slice (some ad) m c0,undef,.slice none 0 0,.pointer (some ⟨w.heap.size,0,none⟩),chV ad m (x%chN m),.slice (some ad) m c0,.func (.func 205) #[] #[.pointer (some ⟨w.heap.size+1,0,none⟩),.pointer (some ⟨w.heap.size+1+1,0,none⟩)],chV ad m (x%chN m),undef,undef,undef,undef,undef,undef,undef,undef],defers:=[] })
  (fun x a'=>fun _ _ _ _ h _ _=>h) ?assign ?body ?done ?stop
 case assign =>
  rintro l' pre x W K ⟨hO,hB,hz⟩ hK
  gi_wp2
  exact hK _ _ ((KeepsOthers.refl _).from _) ⟨Nat.le_refl _,fun _ _ _=>rfl⟩ ⟨hO,hB,hz⟩ rfl
 case body =>
  rintro l' pre x a' W hl ⟨r,hr⟩ ⟨⟨v,hv,hR⟩,hB,hz⟩ rfl hlt;have hxl:x%chN m<chN m:=Nat.mod_lt _ (by omega);obtain⟨y,hy⟩:∃y,y=x%chN m:=⟨_,rfl⟩;rw[← hy]at hxl ⊢;have hym:y*16<m:=by unfold chN at hxl;omega
  have hcell:w.cell? (ad.add (y*16*2))=some (.int .u64 (Qnu l y)):=by
   obtain⟨ad',e',x0,_⟩:=Qjh hr0 ((y*16:Nat):Int) (by omega) (by omega)
   cases e'
   rw[Int.toNat_natCast]at x0;exact x0
  obtain⟨q,hq⟩:∃q,q=ad.add (y*16*2):=⟨_,rfl⟩;rw[← hq]at hcell;have hcell':W.cell? q=some (.int .u64 (Qnu l y)):=(hB.cell (World.block_lt_of_cell? w _ hcell)).trans hcell;obtain⟨e,he⟩:∃e:Nat,e=min 16 (m-y*16):=⟨_,rfl⟩;have he0:(0:Int)<(e:Int):=by omega
  unfold chV;rw[← hq,← he];have j0:W.cell? ⟨w.heap.size,0,none⟩=some v:=(Qdr hv 0).trans rfl;have f0:=Qds hv 0;obtain⟨A,c,rfl⟩:=Kd.R_slice hR;obtain⟨nn,hnn⟩:∃nn,nn=(pre.map (fun k=>Qnu l (k%chN l.length))).length:=⟨_,rfl⟩;have hnl:nn=pre.length:=by rw[hnn,List.length_map]
  have hown:W.ownsRow W0.heap.size 35 1 (.slice A nn c) nn (encs (Value.int .u64) (pre.map (fun k=>Qnu l (k%chN l.length)))):=by
   have h:=Kd.own_of_R hR;rw[← hnn]at h;exact h
  rw[← hnn]at hv hR j0;have HNN:=QA hnn;have HNL:=QA hnl;clear hnn;have hown1:(W.drew.alloc (.cells #[.int .u64 (Qnu l y)] 35)).ownsRow W0.heap.size 35 1 (.slice A nn c) nn (encs (Value.int .u64) (pre.map (fun k=>Qnu l (k%chN l.length)))):=Qfj (Qfp hown) _;obtain⟨i0,hi,hzz⟩:=Option.map_eq_some_iff.1 info35;simp only[Prod.mk.injEq]at hzz;obtain⟨hz0,hz1,hz2⟩:=hzz;have hwsz:w.heap.size≤W.drew.heap.size:=hB.size;have hwsz0:W0.heap.size≤W.drew.heap.size:=hz;obtain⟨v1,w1,hrun,hown2,d,_,hat⟩:=run_append_own_at (P:=Tryz.prog) (W.drew.alloc (.cells #[.int .u64 (Qnu l y)] 35)) W0.heap.size 93 93 35 i0 _ 1 8 Tryz.underlying93 hi hz0 hz1 hz2 rfl (by omega) (.slice A nn c) nn _ hown1 ⟨W.drew.heap.size,0,none⟩ 1 1 [.int .u64 (Qnu l y)] rfl
   (by simpa using World.news_of_block (cs:=#[.int .u64 (Qnu l y)]) (t:=35) (fr:=(0,0)) (heap_alloc_new W.drew (.cells #[.int .u64 (Qnu l y)] 35))) (fun u hu=>by simp at hu;rw[hu];rfl) (by unfold maxLen;unfold chN at hlt;omega) (by unfold chN at hlt;omega) (by rw[World.size_alloc];omega)
  have HY:=QA hy;have HE:=QA he;have HQ:=QA hq;have HI:=QA hi;have j0b:∀o,(W.alloc o).cell? ⟨w.heap.size,0,none⟩=some (.slice A nn c):=fun o=>(Qdr (Qed hv o) 0).trans rfl
  have j0a:∀o,(W.drew.alloc o).cell? ⟨w.heap.size,0,none⟩=some (.slice A nn c):=fun o=>(Qdr (Qed (w:=W.drew) hv o) 0).trans rfl
  have he1:0<e:=by omega
  have hvd:=Qed (w:=W.drew) hv (.cells #[.int .u64 (Qnu l y)] 35);have hv1:=Qdt hvd d (Kd.R_ne hR hv (by decide));have hfw:=Qds hv1 0;have hjw:w1.cell? ⟨w.heap.size,0,none⟩=some (.slice A nn c):=(Qdr hv1 0).trans rfl;have hR1:RU w1 W0.heap.size v1 ((pre++[x]).map (fun k=>Qnu l (k%chN l.length))):=by
   have hlen:((pre++[x]).map (fun k=>Qnu l (k%chN l.length))).length=nn+1:=by rw[List.length_map,List.length_append,HNL.out];rfl
   refine Kd.R_of_own ?_ (fun _ _=>trivial);rw[hlen,List.map_append,Qdy];rw[hy,HMM.out]at hown2;exact hown2
  obtain⟨A1,c1,rfl⟩:=Kd.R_slice hR1;have hKo:KeepsOthers W w1:=(((KeepsOthers.drew W).trans (KeepsOthers.alloc _ _)).trans (KeepsOthers.of_grownBy d (fun j o e1 ho=>by
   obtain⟨cells,hcs⟩:=Kd.R_typed hR j e1;have h2:=Qed (w:=W.drew) hcs (.cells #[.int .u64 (Qnu l y)] 35);rw[h2]at ho
   cases ho
   rfl)))
  have hBw1:Below w.heap.size w w1:=(((hB.trans (Qct (Below.refl _ _))).alloc hwsz _)).grown d (by rw[World.size_alloc];omega) (fun k hk=>Nat.le_trans hB0.size (Kd.R_base hR k hk));have hMid:Mid (w.heap.size+1) W0.heap.size W w1:=by
   refine⟨Nat.le_trans (by rw[World.size_alloc];exact Nat.le_succ _) d.size,fun k h1 h2=>?_⟩;have h3:=d.block k (by rw[World.size_alloc];omega) (fun e'=>by have:=Kd.R_base hR k e'.symm;omega);rw[h3];exact Below.heap_alloc W.drew _ k (by omega)
  have hsc:∀u,(w1.setCell ⟨w.heap.size,0,none⟩ u).heap.size=w1.heap.size:=fun u=>by simp[World.setCell]
  have hzw:W0.heap.size≤w1.heap.size:=Nat.le_trans hz hMid.1;have a:=QA hR1;have HV1:=QA hv1;clear hR1 hv1 hvd;have hmo:Tryz.prog.follows .mixedOrders=true:=by kernel_rfl
  clear hnl hy he hq hi hz0 hz1 hz2 hown hown1
  gi_wp2_with fail
  refine wpIn_region_any hmo ?_
  change wpAnyIn _ _ _ _ _ _ _ _ _ (World.drew _)
  refine wpAnyIn_ready (rs:=[0,1]) qq_4 (by simp) ?_;refine AllReadyIn.cons rfl (fun K hK=>?_) ?_
  ·go_simp;refine hK _ _ ?_;clear hK K;refine wpAnyIn_ready (rs:=[1]) qq_4 (by simp) ?_;refine AllReadyIn.cons rfl (fun K hK=>?_) ?_
   ·go_simp;refine hK _ _ ?_;clear hK K;refine wpAnyIn_ready (rs:=[2]) qq_4 (by simp) ?_;refine AllReadyIn.cons rfl (fun K hK=>?_) ?_
    ·go_simp;refine hK _ _ ?_;clear hK K;refine wpAnyIn_ready (rs:=[3]) qq_4 (by simp) ?_;refine AllReadyIn.cons rfl (fun K hK=>?_) ?_
     ·go_simp;refine hK _ _ ?_;clear hK K;refine wpAnyIn_ready (rs:=[4]) qq_4 (by simp) ?_;refine AllReadyIn.cons rfl (fun K hK=>?_) ?_
      ·go_simp;refine hK _ _ ?_;clear hK K;refine wpAnyIn_ready (rs:=[5]) qq_4 (by simp) ?_;refine AllReadyIn.cons rfl (fun K hK=>?_) ?_
       ·go_simp;refine hK _ _ ?_;clear hK K;refine wpAnyIn_ready (rs:=[6]) qq_4 (by simp) ?_;refine AllReadyIn.cons rfl (fun K hK=>?_) AllReadyIn.nil;refine Qnt (s:=.tmp 8) (x:=.tmp 13) (t:=93) (by rfl) rfl rfl rfl hrun ?_;go_simp;refine hK _ _ ?_;clear hK K;refine wpAnyIn_ready (rs:=[7]) qq_4 (by simp) ?_;refine AllReadyIn.cons rfl (fun K hK=>?_) AllReadyIn.nil;go_simp;refine hK _ _ ?_;clear hK K;refine wpAnyIn_done qq_4 ?_ _;refine⟨(hKo.trans (KeepsOthers.setCell _ _ _)).from _,⟨by rw[hsc];exact hMid.1,fun k h1 h2=>?_⟩,⟨_,Qdo HV1.out 0 _,?_⟩,Qjt hBw1 (Nat.le_refl _),by rw[hsc];exact hzw⟩
        ·rw[Below.heap_setCell _ _ _ k (by show k≠w.heap.size;omega)];exact hMid.2 k h1 h2
        ·have h:=Kd.R_set a.out HV1.out (by decide) 0 (.slice A1 (pre.length+1) c1);simp only[List.length_map,List.length_append,List.length_cons,List.length_nil,Nat.zero_add]at h;exact h
       exact AllReadyIn.nil
      exact AllReadyIn.nil
     exact AllReadyIn.nil
    exact AllReadyIn.nil
   exact AllReadyIn.nil
  refine AllReadyIn.cons rfl (fun K hK=>?_) ?_
  ·go_simp;refine hK _ _ ?_;clear hK K;refine wpAnyIn_ready (rs:=[0,2]) qq_4 (by simp) ?_;refine AllReadyIn.cons rfl (fun K hK=>?_) ?_
   ·go_simp;refine hK _ _ ?_;clear hK K;refine wpAnyIn_ready (rs:=[2]) qq_4 (by simp) ?_;refine AllReadyIn.cons rfl (fun K hK=>?_) ?_
    ·go_simp;refine hK _ _ ?_;clear hK K;refine wpAnyIn_ready (rs:=[3]) qq_4 (by simp) ?_;refine AllReadyIn.cons rfl (fun K hK=>?_) ?_
     ·go_simp;refine hK _ _ ?_;clear hK K;refine wpAnyIn_ready (rs:=[4]) qq_4 (by simp) ?_;refine AllReadyIn.cons rfl (fun K hK=>?_) ?_
      ·go_simp;refine hK _ _ ?_;clear hK K;refine wpAnyIn_ready (rs:=[5]) qq_4 (by simp) ?_;refine AllReadyIn.cons rfl (fun K hK=>?_) ?_
       ·go_simp;refine hK _ _ ?_;clear hK K;refine wpAnyIn_ready (rs:=[6]) qq_4 (by simp) ?_;refine AllReadyIn.cons rfl (fun K hK=>?_) AllReadyIn.nil;refine Qnt (s:=.tmp 8) (x:=.tmp 13) (t:=93) (by rfl) rfl rfl rfl hrun ?_;go_simp;refine hK _ _ ?_;clear hK K;refine wpAnyIn_ready (rs:=[7]) qq_4 (by simp) ?_;refine AllReadyIn.cons rfl (fun K hK=>?_) AllReadyIn.nil;go_simp;refine hK _ _ ?_;clear hK K;refine wpAnyIn_done qq_4 ?_ _;refine⟨(hKo.trans (KeepsOthers.setCell _ _ _)).from _,⟨by rw[hsc];exact hMid.1,fun k h1 h2=>?_⟩,⟨_,Qdo HV1.out 0 _,?_⟩,Qjt hBw1 (Nat.le_refl _),by rw[hsc];exact hzw⟩
        ·rw[Below.heap_setCell _ _ _ k (by show k≠w.heap.size;omega)];exact hMid.2 k h1 h2
        ·have h:=Kd.R_set a.out HV1.out (by decide) 0 (.slice A1 (pre.length+1) c1);simp only[List.length_map,List.length_append,List.length_cons,List.length_nil,Nat.zero_add]at h;exact h
       exact AllReadyIn.nil
      exact AllReadyIn.nil
     exact AllReadyIn.nil
    exact AllReadyIn.nil
   refine AllReadyIn.cons rfl (fun K hK=>?_) ?_
   ·go_simp;refine hK _ _ ?_;clear hK K;refine wpAnyIn_ready (rs:=[0,3]) qq_4 (by simp) ?_;refine AllReadyIn.cons rfl (fun K hK=>?_) ?_
    ·go_simp;refine hK _ _ ?_;clear hK K;refine wpAnyIn_ready (rs:=[3]) qq_4 (by simp) ?_;refine AllReadyIn.cons rfl (fun K hK=>?_) ?_
     ·go_simp;refine hK _ _ ?_;clear hK K;refine wpAnyIn_ready (rs:=[4]) qq_4 (by simp) ?_;refine AllReadyIn.cons rfl (fun K hK=>?_) ?_
      ·go_simp;refine hK _ _ ?_;clear hK K;refine wpAnyIn_ready (rs:=[5]) qq_4 (by simp) ?_;refine AllReadyIn.cons rfl (fun K hK=>?_) ?_
       ·go_simp;refine hK _ _ ?_;clear hK K;refine wpAnyIn_ready (rs:=[6]) qq_4 (by simp) ?_;refine AllReadyIn.cons rfl (fun K hK=>?_) AllReadyIn.nil;refine Qnt (s:=.tmp 8) (x:=.tmp 13) (t:=93) (by rfl) rfl rfl rfl hrun ?_;go_simp;refine hK _ _ ?_;clear hK K;refine wpAnyIn_ready (rs:=[7]) qq_4 (by simp) ?_;refine AllReadyIn.cons rfl (fun K hK=>?_) AllReadyIn.nil;go_simp;refine hK _ _ ?_;clear hK K;refine wpAnyIn_done qq_4 ?_ _;refine⟨(hKo.trans (KeepsOthers.setCell _ _ _)).from _,⟨by rw[hsc];exact hMid.1,fun k h1 h2=>?_⟩,⟨_,Qdo HV1.out 0 _,?_⟩,Qjt hBw1 (Nat.le_refl _),by rw[hsc];exact hzw⟩
        ·rw[Below.heap_setCell _ _ _ k (by show k≠w.heap.size;omega)];exact hMid.2 k h1 h2
        ·have h:=Kd.R_set a.out HV1.out (by decide) 0 (.slice A1 (pre.length+1) c1);simp only[List.length_map,List.length_append,List.length_cons,List.length_nil,Nat.zero_add]at h;exact h
       exact AllReadyIn.nil
      exact AllReadyIn.nil
     exact AllReadyIn.nil
    refine AllReadyIn.cons rfl (fun K hK=>?_) ?_
    ·go_simp;refine hK _ _ ?_;clear hK K;refine wpAnyIn_ready (rs:=[0,4]) qq_4 (by simp) ?_;refine AllReadyIn.cons rfl (fun K hK=>?_) ?_
     ·go_simp;refine hK _ _ ?_;clear hK K;refine wpAnyIn_ready (rs:=[4]) qq_4 (by simp) ?_;refine AllReadyIn.cons rfl (fun K hK=>?_) ?_
      ·go_simp;refine hK _ _ ?_;clear hK K;refine wpAnyIn_ready (rs:=[5]) qq_4 (by simp) ?_;refine AllReadyIn.cons rfl (fun K hK=>?_) ?_
       ·go_simp;refine hK _ _ ?_;clear hK K;refine wpAnyIn_ready (rs:=[6]) qq_4 (by simp) ?_;refine AllReadyIn.cons rfl (fun K hK=>?_) AllReadyIn.nil;refine Qnt (s:=.tmp 8) (x:=.tmp 13) (t:=93) (by rfl) rfl rfl rfl hrun ?_;go_simp;refine hK _ _ ?_;clear hK K;refine wpAnyIn_ready (rs:=[7]) qq_4 (by simp) ?_;refine AllReadyIn.cons rfl (fun K hK=>?_) AllReadyIn.nil;go_simp;refine hK _ _ ?_;clear hK K;refine wpAnyIn_done qq_4 ?_ _;refine⟨(hKo.trans (KeepsOthers.setCell _ _ _)).from _,⟨by rw[hsc];exact hMid.1,fun k h1 h2=>?_⟩,⟨_,Qdo HV1.out 0 _,?_⟩,Qjt hBw1 (Nat.le_refl _),by rw[hsc];exact hzw⟩
        ·rw[Below.heap_setCell _ _ _ k (by show k≠w.heap.size;omega)];exact hMid.2 k h1 h2
        ·have h:=Kd.R_set a.out HV1.out (by decide) 0 (.slice A1 (pre.length+1) c1);simp only[List.length_map,List.length_append,List.length_cons,List.length_nil,Nat.zero_add]at h;exact h
       exact AllReadyIn.nil
      exact AllReadyIn.nil
     refine AllReadyIn.cons rfl (fun K hK=>?_) ?_
     ·go_simp;refine hK _ _ ?_;clear hK K;refine wpAnyIn_ready (rs:=[0,5]) qq_4 (by simp) ?_;refine AllReadyIn.cons rfl (fun K hK=>?_) ?_
      ·go_simp;refine hK _ _ ?_;clear hK K;refine wpAnyIn_ready (rs:=[5]) qq_4 (by simp) ?_;refine AllReadyIn.cons rfl (fun K hK=>?_) ?_
       ·go_simp;refine hK _ _ ?_;clear hK K;refine wpAnyIn_ready (rs:=[6]) qq_4 (by simp) ?_;refine AllReadyIn.cons rfl (fun K hK=>?_) AllReadyIn.nil;refine Qnt (s:=.tmp 8) (x:=.tmp 13) (t:=93) (by rfl) rfl rfl rfl hrun ?_;go_simp;refine hK _ _ ?_;clear hK K;refine wpAnyIn_ready (rs:=[7]) qq_4 (by simp) ?_;refine AllReadyIn.cons rfl (fun K hK=>?_) AllReadyIn.nil;go_simp;refine hK _ _ ?_;clear hK K;refine wpAnyIn_done qq_4 ?_ _;refine⟨(hKo.trans (KeepsOthers.setCell _ _ _)).from _,⟨by rw[hsc];exact hMid.1,fun k h1 h2=>?_⟩,⟨_,Qdo HV1.out 0 _,?_⟩,Qjt hBw1 (Nat.le_refl _),by rw[hsc];exact hzw⟩
        ·rw[Below.heap_setCell _ _ _ k (by show k≠w.heap.size;omega)];exact hMid.2 k h1 h2
        ·have h:=Kd.R_set a.out HV1.out (by decide) 0 (.slice A1 (pre.length+1) c1);simp only[List.length_map,List.length_append,List.length_cons,List.length_nil,Nat.zero_add]at h;exact h
       exact AllReadyIn.nil
      refine AllReadyIn.cons rfl (fun K hK=>?_) ?_
      ·go_simp;refine hK _ _ ?_;clear hK K;refine wpAnyIn_ready (rs:=[0]) qq_4 (by simp) ?_;refine AllReadyIn.cons rfl (fun K hK=>?_) ?_
       ·go_simp;refine hK _ _ ?_;clear hK K;refine wpAnyIn_ready (rs:=[6]) qq_4 (by simp) ?_;refine AllReadyIn.cons rfl (fun K hK=>?_) AllReadyIn.nil;refine Qnt (s:=.tmp 8) (x:=.tmp 13) (t:=93) (by rfl) rfl rfl rfl hrun ?_;go_simp;refine hK _ _ ?_;clear hK K;refine wpAnyIn_ready (rs:=[7]) qq_4 (by simp) ?_;refine AllReadyIn.cons rfl (fun K hK=>?_) AllReadyIn.nil;go_simp;refine hK _ _ ?_;clear hK K;refine wpAnyIn_done qq_4 ?_ _;refine⟨(hKo.trans (KeepsOthers.setCell _ _ _)).from _,⟨by rw[hsc];exact hMid.1,fun k h1 h2=>?_⟩,⟨_,Qdo HV1.out 0 _,?_⟩,Qjt hBw1 (Nat.le_refl _),by rw[hsc];exact hzw⟩
        ·rw[Below.heap_setCell _ _ _ k (by show k≠w.heap.size;omega)];exact hMid.2 k h1 h2
        ·have h:=Kd.R_set a.out HV1.out (by decide) 0 (.slice A1 (pre.length+1) c1);simp only[List.length_map,List.length_append,List.length_cons,List.length_nil,Nat.zero_add]at h;exact h
       exact AllReadyIn.nil
      exact AllReadyIn.nil
     exact AllReadyIn.nil
    exact AllReadyIn.nil
   exact AllReadyIn.nil
  exact AllReadyIn.nil
 case done =>
  rintro D ys W hD rfl ⟨⟨v,hv,hR⟩,hB,hz⟩ hK;obtain⟨A,c,rfl⟩:=Kd.R_slice hR;have j0:W.cell? ⟨w.heap.size,0,none⟩=_:=(Qdr hv 0).trans rfl
  gi_wp2
  refine⟨by simp,.inl ⟨_,_,rfl,run_takeDeferred hK,?_⟩⟩;have hlen:(List.map (fun k=>Qnu l (k%chN l.length)) (List.range (chN m))).length=chN m:=by simp
  rw[hlen]at hR;have hfl:List.map (fun k=>Qnu l (k%chN l.length)) (List.range (chN m))=Qnv l:=by
   rw[HMM.out];unfold Qnv;apply List.map_congr_left;intro k hk;rw[Nat.mod_eq_of_lt (List.mem_range.1 hk)]
  rw[hfl]at hR;refine⟨.slice A (chN m) c,by simp[results,Tryz.f113,go_sem],⟨_,rfl,?_⟩,hB.trans (belowK_b (w:=w) (Nat.le_refl _) _ D _ _ (by omega) hK rfl rfl)⟩;refine Kd.R_lower (ru_put hR hK rfl) hB0.size
 case stop =>
  rintro D c pre W hD hpre hf;exact hf.elim
theorem Qny(ad:Addr)(c0 m:Nat)(l:List Ent)(w:World)(hmm:m=l.length)(hr0:Kd.C k129 w (some ad) m l)(hc:m≤c0)(hm:m≤1099511627776) :
  Calls Tryz.prog 113 #[.slice (some ad) m c0] w fun e w'=>(∃v,e=.returned v∧RU w' w.heap.size v (Qnv l))∧Below w.heap.size w w' :=
 (callsIn_wide (n:=3)).1 (Qnx Fence.wide 3 trivial trivial trivial rfl (by omega) ad c0 m l w hmm hr0 hc hm)
end Go.Proofs.YteaocbonofboeaaGreat.C
end
