/- Merged texts. -/
import Derived.Test.YtnnofopfbeklbaaGreatML01
import Derived.RangeFuncNested
import Derived.RangeFuncBound
import Derived.RangeFuncCalls
import Derived.RangeFuncLeaves
import Derived.Shelf.Abstract
import Derived.Shelf.RegionOpen
import Derived.OwnWalkIn
import Derived.TacticsInMore
import Derived.LoopNIn
import Derived.LoopIn
import Derived.Test.YtnnofopfbeklbaaGreatML08
import Derived.Test.YtnnofopfbeklbaaGreatML04
import Derived.Test.YtnnofopfbeklbaaGreatML09
import Derived.Test.YtnnofopfbeklbaaGreatML03
import Derived.Test.YtnnofopfbeklbaaGreatML06
import Derived.Test.YtnnofopfbeklbaaGreatML07
set_option linter.unusedVariables false
set_option linter.unusedSimpArgs false
set_option maxHeartbeats 8000000
set_option maxRecDepth 100000
section
namespace Go.Proofs.YtnnofopfbeklbaaGreat.C
open Go.RowKit Go.Proofs.YtnnofopfbeklbaaGreatW.PrintWords Go.Proofs.YtnnofopfbeklbaaGreatW.PrintLast Go.Proofs.YtnnofopfbeklbaaGreatW.PrintMore
open Go.Shelf
attribute [local go_sem] Oper.semAt_some Qib Qic Qid Qie
def chN(n:Nat):Nat:=(n+15)/16
def chV(ad:Addr)(n k:Nat):Value:=.slice (some (ad.add (k*16*2))) (min 16 (n-k*16)) (min 16 (n-k*16))
theorem infoE:∃i,Tryz.prog.info? 117=some i∧i.size=2:=by
 obtain⟨i0,hi,hzz⟩:=Option.map_eq_some_iff.1 Qsf;simp only[Prod.mk.injEq]at hzz;exact⟨i0,hi,hzz.2.1⟩
theorem Qsg{k m:Nat}(h:k≤m):List.range k <+: List.range m:=by
 refine⟨(List.range (m-k)).map (k+·),?_⟩;have:=@List.range_add k (m-k);rw[show k+(m-k)=m by omega]at this;exact this.symm
theorem Qsh(F:Fence)(n:Nat)(hf:F.fn 204)(hro:F.round=none)(hn:1≤n)(l Bs Bn n₀:Nat)(ad:Addr)(m c0:Nat)(w0:World)(hc:m≤c0)(hm:m≤1099511627776)(d:n₀=w0.heap.size)(Kp:World→World→Prop)(hKc:∀A B b,Kp A B→(b=Bs∨b=Bn)→B.cell? ⟨b,0,none⟩=A.cell? ⟨b,0,none⟩)(enc:Nat→Value)(henc:∀k,k<chN m→enc k=chV ad m k)(J Jx:List Nat→World→Prop)
  (hJd:∀pre W q,J pre W→J pre (W.drewN q)) (hY:∀pre x W,J pre W→pre.length<chN m→YieldAt F (n-1) Tryz.prog l #[enc x] W fun e W' =>
   (e=.returned (.bool true)∧J (pre++[x]) W'∧Kp W W')∨(e=.returned (.bool false)∧Jx (pre++[x]) W'))
  (W:World) (hBs0:w0.cell? ⟨Bs,0,none⟩=some (.slice (some ad) m c0)) (hBn0:w0.cell? ⟨Bn,0,none⟩=some (.int .i64 16)) (hw:Below n₀ w0 W) (h0:J [] W) :
  CallsIn F n Tryz.prog 204 #[.func (.yield l) #[] #[],.pointer (some ⟨Bs,0,none⟩),.pointer (some ⟨Bn,0,none⟩)] W fun e W'=>(∃v,e=.returned v) ∧
   ((∃ys,ys=List.range (chN m)∧J ys W')∨(∃pre,pre <+: List.range (chN m)∧Jx pre W')):=by
 have keep0:∀ {W:World} {a:Addr} {v:Value},Below n₀ w0 W→w0.cell? a=some v→W.cell? a=some v:=fun {W a v} hb h=>(hb.cell (by have:=World.block_lt_of_cell? w0 _ h;omega)).trans h
 have hBs:W.cell? ⟨Bs,0,none⟩=some (.slice (some ad) m c0):=keep0 hw hBs0;have hBn:W.cell? ⟨Bn,0,none⟩=some (.int .i64 16):=keep0 hw hBn0;refine callsIn_of_wp Tryz.func204 rfl hf ?_ hro;simp only[Tryz.ntmps204,List.size_toArray,List.length_cons,List.length_nil,Nat.reduceAdd,Nat.reduceSub,Array.replicate_succ,Array.replicate_zero,List.push_toArray,List.append_toArray,List.nil_append,List.cons_append]
 gi_wp2
 gi_loopw [4] (fun i wr=>∃(k:Nat) (iv:Int),k≤chN m∧i=.int .i64 iv∧Aside0 (iv=(k:Int)*16)∧J (List.range k) wr∧wr.cell? ⟨Bs,0,none⟩=some (.slice (some ad) m c0)∧wr.cell? ⟨Bn,0,none⟩=some (.int .i64 16))
  (fun i _=>((m:Int)+16-intOf i).toNat)
 case atStart=>exact⟨0,_,Nat.zero_le _,rfl,⟨by simp⟩,by simpa using h0,hBs,hBn⟩
 case round =>
  obtain⟨k,iv,hk,rfl,HI,hJs,hcs,hcn⟩:=hrel
  by_cases hlt:iv<(m:Int)
  ·have hkm:k*16<m:=by have:=HI.out;omega
   have hk2:k<chN m:=by unfold chN;omega
   have h0:0≤iv:=by have:=HI.out;omega
   have hb1:decide (iv<(m:Int))=true:=decide_eq_true hlt;have hivn:iv.toNat=k*16:=by have:=HI.out;omega
   obtain⟨A',n',c',hn',hhd⟩:∃(A':Option Addr) (n' c':Nat),n'=m-k*16∧∀W:World,(Instr.slice 106 (.slice (some ad) m c0) (some (.int .i64 iv)) none none).run Tryz.prog W=.ok (.slice A' n' c') W:=by
    obtain⟨i0,hi,hsz⟩:=infoE;have h:=Qev (P:=Tryz.prog) 106 117 .i64 Tryz.underlying106 hi 2 hsz (some ad) m c0 iv h0 (by omega);exact⟨_,_,_,by rw[hivn],h⟩
   obtain⟨e,he⟩:∃e:Int,e=((min 16 (m-k*16):Nat):Int):=⟨_,rfl⟩;have he0:0≤e:=by omega
   obtain⟨hi,hhi⟩:∃hi:Int,hi=iv+e:=⟨_,rfl⟩;have hch:∀W:World,(Instr.slice 106 (.slice (some ad) m c0) (some (.int .i64 iv)) (some (.int .i64 hi)) (some (.int .i64 hi))).run Tryz.prog W=.ok (chV ad m k) W:=by
    intro W;obtain⟨i0,hii,hsz⟩:=infoE;have hel:Tryz.prog.elem 106=117:=by simp[Program.elem,Tryz.underlying106]
    have hu:Tryz.prog.underlying 106=some (.slice (Tryz.prog.elem 106)):=by rw[hel];exact Tryz.underlying106
    rw[run_slice_lhm W 106 (some ad) m c0 hu .i64 .i64 .i64 iv hi hi h0 (by omega) (by omega) (by have:=HI.out;omega),hel];have hsz2:(hi.toNat-iv.toNat)=min 16 (m-k*16):=by omega
    have hne:¬hi.toNat-iv.toNat=0:=by omega
    simp[sizeOf,typeInfo,hii,hsz,sliced,Result.andThen,chV,hivn];omega
   have hwr:IntKind.i64.wrap (iv+e)=hi:=by rw[IntWalk.i64_in _ (by have:=HI.out;omega)];exact hhi.symm
   obtain⟨jv,hj⟩:∃jv:Int,jv=iv+16:=⟨_,rfl⟩;have hwn:IntKind.i64.wrap (iv+16)=jv:=by rw[IntWalk.i64_in _ (by have:=HI.out;omega)];exact hj.symm
   have hjm:jv≤(m:Int)+16:=by omega
   have hjp:iv<jv:=by omega
   have hmin:((n':Int)<16∧e=(n':Int))∨(¬(n':Int)<16∧e=16∧jv=hi):=by omega
   have HJ:=QA hj;have HE:=QA he;have HH:=QA hhi;have HN:=QA hn';have hlt2:iv+16≤(m:Int)+16:=by omega
   have HK:=QA hkm;have hlt2':=hlt2;clear he hhi hn' hivn hkm hj hlt2 hlt2'
   rcases hmin with⟨c,rfl⟩ |⟨c,rfl,rfl⟩
   all_goals
    gi_wp2
    refine wpIn_region_quiet_lit hro qq_7 qq_7 ?_
    repeat(gi_big_quiet_step (fail))
    refine wpQuietIn_nil ?_;intro _ hw';obtain⟨nq,hw''⟩:=hw';subst hw'';obtain⟨fn,tmps,assign,body,hy,hR⟩:=hY _ k (wr.drewN nq) (hJd _ _ _ hJs) (by rw[List.length_range];exact hk2);rw[henc k hk2]at hy
    gi_wp2
    refine hR.mono ?_;rintro e W3 (⟨rfl,hJ3,hk3⟩ |⟨rfl,hJx3⟩)
    ·have hcn3:W3.cell? ⟨Bn,0,none⟩=some (.int .i64 16):=(hKc _ _ _ hk3 (.inr rfl)).trans hcn;have hcs3:W3.cell? ⟨Bs,0,none⟩=some (.slice (some ad) m c0):=(hKc _ _ _ hk3 (.inl rfl)).trans hcs
     gi_wp2
     go_roundw
     case rel=>exact⟨k+1,_,hk2,rfl,⟨by have:=HI.out;have:=HJ.out;omega⟩,by rw[List.range_succ];exact hJ3,hcs3,hcn3⟩
     case measure=>simp[intOf];omega
    ·gi_wp2
     refine bodyPost_ret (results_none rfl _ _ _) rfl ?_;exact⟨⟨_,rfl⟩,.inr ⟨_,by have:=Qsg (k:=k+1) hk2;rw[List.range_succ]at this;exact this,hJx3⟩⟩
  ·have hkm:m≤k*16:=by have:=HI.out;omega
   have hk2:k=chN m:=by unfold chN at hk ⊢;omega
   have hb1:decide (iv<(m:Int))=false:=decide_eq_false hlt
   gi_wp2
   go_end0
   exact⟨⟨_,rfl⟩,.inl (by rw[← hk2];exact hJs)⟩
theorem Qsi(F:Fence)(n:Nat)(h5:F.fn 162)(hro:F.round=none)(a:Option Addr)(len cap:Nat)(w:World) :
  CallsIn F n Tryz.prog 162 #[.slice a len cap,.int .i64 16] w fun e w'=>e=.returned (.func (.func 204) #[] #[.pointer (some ⟨w.heap.size,0,none⟩),.pointer (some ⟨w.heap.size+1,0,none⟩)])∧w'=(w.alloc (.cells #[.slice a len cap] 106)).alloc (.cells #[.int .i64 16] 3):=by
 refine callsIn_of_wp Tryz.func162 rfl h5 ?_ hro;simp only[Tryz.ntmps162,List.size_toArray,List.length_cons,List.length_nil,Nat.reduceAdd,Nat.reduceSub,Array.replicate_succ,Array.replicate_zero,List.push_toArray,List.append_toArray,List.nil_append,List.cons_append]
 gi_wp2
 go_ret
 exact⟨rfl,rfl⟩
theorem Qsj{F:Fence}{n:Nat}{P:Program}{ops:Array Oper}{o:Oper}{a:Act}{Q:Exit→Act→World→Prop}{Kc:Act→World→Prop}{W w1:World}{v v1 v2:Value}{s x:Operand}{t:TypeId}
  (hw:Region.wanted o (yielded ops a.tmps)=true) (ho:o.op=.call { callee:=.builtin .append,args:=#[s,x],argTypes:=#[t,t] }) (hs:a.eval s=v) (hx:a.eval x=v2)
  (hrun:(Builtin.append_ #[t,t] o.type #[v,v2]).run P W=.ok v1 w1) (h:Kc (a.put o.dst v1) w1) :
  if Region.wanted o (yielded ops a.tmps)=true then Oper.wpIn F n P o a W Kc Q else(∀f,o.about P W a.eval=some f→F.fn f)∧Kc (a.put o.dst undef) W:=by
 rw[if_pos hw];unfold Oper.wpIn;refine⟨?_,?_⟩
 ·simp[Oper.about,ho,resolve,Target.leads,Sem.run_pure]
 ·rw[Oper.semAt_plain F _ _ (by rw[ho];intro c hc';cases hc')];simp[execOp,ho,resolve,invoke,builtin,hs,hx,hrun,Result.andThen];exact h
abbrev RU(W:World)(b:Nat)(v:Value)(l:List Int):Prop:=Kd.R (Kd.int .u64) 34 W b (fun _=>True) v l
def Qsk(l:List Ent)(k:Nat):Int:=(Qiz l ((k*16:Nat):Int)).f0
def Qsl(l:List Ent):List Int:=(List.range (chN l.length)).map (Qsk l)
def Mid(lo hi:Nat)(A B:World):Prop:=A.heap.size≤B.heap.size∧∀k,lo≤k→k<hi→B.heap[k]? = A.heap[k]?
theorem Mid.trans{lo hi:Nat}{A B C:World}(h:Mid lo hi A B)(k:Mid lo hi B C):Mid lo hi A C:=⟨Nat.le_trans h.1 k.1,fun i h1 h2=>(k.2 i h1 h2).trans (h.2 i h1 h2)⟩
theorem Mid.cell{lo hi:Nat}{A B:World}(h:Mid lo hi A B){b:Nat}(h1:lo≤b)(h2:b<hi):B.cell? ⟨b,0,none⟩=A.cell? ⟨b,0,none⟩:=by simp[World.cell?,h.2 b h1 h2]
theorem Mid.put{lo hi:Nat}(W:World)(l:Nat)(o':Obj)(h:hi≤l):Mid lo hi W (W.putObj l o'):=by
 refine⟨by simp[World.putObj],fun k _ h2=>?_⟩;simp only[World.putObj];rw[Array.getElem?_setIfInBounds_ne (by omega)]
def Outs(l:List Ent)(g b:Nat)(pre:List Nat)(W:World):Prop:=∃v,W.heap[g]? = some (.cells #[v] 70 (0,0))∧RU W b v (pre.map (fun k=>Qsk l (k%chN l.length)))
theorem Qsm(l:List Ent)(g b:Nat):Own (Outs l g b):=by
 intro s X Y row ⟨v,hv,hR⟩ hg hrow;refine⟨v,(hg.block g (Qdu hv) (fun e'=>?_)).trans hv,Kd.R_mono (Kd.R_grown (Kd.R_bound hR) hg (fun k hk e'=>?_)) (fun _ _=>trivial)⟩
 ·obtain⟨o,ho,hc⟩:=hrow g e'.symm;rw[hv]at ho;cases ho;cases hc
 ·obtain⟨o,ho,hc⟩:=hrow k e'.symm;obtain⟨q,_,cells,hk4⟩:=hk.2.2.2;rw[hk4]at ho;cases ho;cases hc
theorem ru_put{W:World}{b D:Nat}{v:Value}{xs:List Int}{o o':Obj}(h:RU W b v xs)(hD:W.heap[D]? = some o)(ho:o.isCells=false):RU (W.putObj D o') b v xs:=by
 refine Kd.R_mono (Kd.R_step (Kd.R_bound h) (fun k hk _=>?_)) (fun _ _=>trivial);obtain⟨q,_,cells,hk4⟩:=hk.2.2.2;have hne:D≠k:=by
  intro e;subst e;rw[hk4]at hD
  cases hD
  cases ho
 simp only[World.putObj];rw[Array.getElem?_setIfInBounds_ne hne]
theorem Qsn (F:Fence) (n:Nat) (h3:F.fn 115) (h4:F.fn 162) (h5:F.fn 204) (hro:F.round=none) (hn:3≤n) (ad:Addr) (c0 m:Nat) (l:List Ent) (w:World) (hmm:m=l.length) (hr0:Kd.C k117 w (some ad) m l) (hc:m≤c0) (hm:m≤1099511627776) :
  CallsIn F n Tryz.prog 115 #[.slice (some ad) m c0] w fun e w'=>(∃v,e=.returned v∧RU w' w.heap.size v (Qsl l))∧Below w.heap.size w w':=by
 have h1:1≤n:=by omega
 have hu:=Tryz.underlying117;have HMM:=QA hmm;clear hmm;refine callsIn_of_wp_marks Tryz.func115 rfl h3 ?_ hro;simp only[Tryz.ntmps115,List.size_toArray,List.length_cons,List.length_nil,Nat.reduceAdd,Nat.reduceSub,Array.replicate_succ,Array.replicate_zero,List.push_toArray,List.append_toArray,List.nil_append,List.cons_append]
 gi_wp2_with (gi_at_call 162;refine(Qsi F (n-1) h4 hro _ _ _ _).mono ?_;rintro e w' ⟨rfl,rfl⟩)
 have hB0:Below w.heap.size w (((w.alloc (.cells #[.slice none 0 0] 70)).alloc (.cells #[.slice (some ad) m c0] 106)).alloc (.cells #[.int .i64 16] 3)):=(((Below.refl _ w).alloc (Nat.le_refl _) _).alloc (by simp) _).alloc qq_20 _;have b0:=Qef (Qef (Qej w (.cells #[.slice none 0 0] 70)) (.cells #[.slice (some ad) m c0] 106)) (.cells #[.int .i64 16] 3);have b1:=Qef (Qej (w.alloc (.cells #[.slice none 0 0] 70)) (.cells #[.slice (some ad) m c0] 106)) (.cells #[.int .i64 16] 3);have b2:=Qej ((w.alloc (.cells #[.slice none 0 0] 70)).alloc (.cells #[.slice (some ad) m c0] 106)) (.cells #[.int .i64 16] 3);have hsz:(((w.alloc (.cells #[.slice none 0 0] 70)).alloc (.cells #[.slice (some ad) m c0] 106)).alloc (.cells #[.int .i64 16] 3)).heap.size=w.heap.size+3:=by simp
 simp only[World.size_alloc]at b1 b2;obtain⟨W0,hW0⟩:∃W0,((w.alloc (.cells #[.slice none 0 0] 70)).alloc (.cells #[.slice (some ad) m c0] 106)).alloc (.cells #[.int .i64 16] 3)=W0:=⟨_,rfl⟩;rw[hW0]at b0 b1 b2 hB0 hsz ⊢;clear hW0;have hRn:Outs l w.heap.size W0.heap.size [] W0:=⟨_,b0,Kd.R_nil _ _ _ _ _⟩;refine wpIn_rangeFunc_ownH hro h1 (gf:=204) (lb:=#[.pointer (some ⟨w.heap.size+1,0,none⟩),.pointer (some ⟨w.heap.size+1+1,0,none⟩)]) rfl h5 (enters_of Tryz.func204 qq_7 rfl)
  (encs:=fun x:Nat=>#[chV ad m (x%chN m)]) (Kp:=Mid (w.heap.size+1) W0.heap.size) (S:=fun ys=>ys=List.range (chN m)) (Sp:=fun pre=>pre <+: List.range (chN m)) (N:=chN m) (w0:=W0)
  (fun l J Jx W hW hJ _ hY h0=>Qsh F (n-1) h5 hro (by omega) l (w.heap.size+1) (w.heap.size+1+1) W0.heap.size ad m c0 W0 hc hm rfl (Mid (w.heap.size+1) W0.heap.size) (fun A B b h e=>by rcases e with rfl|rfl<;>exact Mid.cell h (by omega) (by omega)) _ (fun k hk=>by rw[Nat.mod_eq_of_lt hk]) J Jx (fun pre W q hp=>hJ pre W _ none hp ⟨rfl,rfl,rfl,Nat.le_refl _,fun _ _ _=>rfl⟩ (fun r e=>by cases e)) hY W ((Qdv b1 0).trans rfl) ((Qdv b2 0).trans rfl) hW h0)
  Mid.trans (fun W l o o' h1 _ _ _=>Mid.put W l o' h1) (Below.refl _ _) (fun _=>rfl)
  (fun pre W=>Outs l w.heap.size W0.heap.size pre W∧Below w.heap.size w W∧W0.heap.size≤W.heap.size)
  (fun c pre W=>False)
  (OwnFrom.and (Own.from (Qsm l w.heap.size W0.heap.size) _) (OwnFrom.and (ownFrom_below (by omega) (by omega)) (fun _ _ _ _ h hg _=>Nat.le_trans h hg.size)))
  (fun c=>fun _ _ _ _ h _ _=>h)
  ⟨hRn,hB0,Nat.le_refl _⟩
  (fun x a' W=>a'={ tmps:=#[.slice (some ad) m c0,undef,.slice none 0 0,.pointer (some ⟨w.heap.size,0,none⟩),chV ad m (x%chN m),.slice (some ad) m c0,.func (.func 204) #[] #[.pointer (some ⟨w.heap.size+1,0,none⟩),.pointer (some ⟨w.heap.size+1+1,0,none⟩)],chV ad m (x%chN m),undef,undef,undef,undef,undef,undef,undef,undef],defers:=[] })
  (fun x a'=>fun _ _ _ _ h _ _=>h) ?assign ?body ?done ?stop
 case assign =>
  rintro l' pre x W K ⟨hO,hB,hz⟩ hK
  gi_wp2
  exact hK _ _ ((KeepsOthers.refl _).from _) ⟨Nat.le_refl _,fun _ _ _=>rfl⟩ ⟨hO,hB,hz⟩ rfl
 case body =>
  rintro l' pre x a' W hl ⟨r,hr⟩ ⟨⟨v,hv,hR⟩,hB,hz⟩ rfl hlt;have hxl:x%chN m<chN m:=Nat.mod_lt _ (by omega);obtain⟨y,hy⟩:∃y,y=x%chN m:=⟨_,rfl⟩;rw[← hy]at hxl ⊢;have hym:y*16<m:=by unfold chN at hxl;omega
  have hcell:w.cell? (ad.add (y*16*2))=some (.int .u64 (Qsk l y)):=by
   obtain⟨ad',e',x0,_⟩:=Qja hr0 ((y*16:Nat):Int) (by omega) (by omega)
   cases e'
   rw[Int.toNat_natCast]at x0;exact x0
  obtain⟨q,hq⟩:∃q,q=ad.add (y*16*2):=⟨_,rfl⟩;rw[← hq]at hcell;have hcell':W.cell? q=some (.int .u64 (Qsk l y)):=(hB.cell (World.block_lt_of_cell? w _ hcell)).trans hcell;obtain⟨e,he⟩:∃e:Nat,e=min 16 (m-y*16):=⟨_,rfl⟩;have he0:(0:Int)<(e:Int):=by omega
  unfold chV;rw[← hq,← he];have j0:W.cell? ⟨w.heap.size,0,none⟩=some v:=(Qdv hv 0).trans rfl;have f0:=Qdw hv 0;obtain⟨A,c,rfl⟩:=Kd.R_slice hR;obtain⟨nn,hnn⟩:∃nn,nn=(pre.map (fun k=>Qsk l (k%chN l.length))).length:=⟨_,rfl⟩;have hnl:nn=pre.length:=by rw[hnn,List.length_map]
  have hown:W.ownsRow W0.heap.size 34 1 (.slice A nn c) nn (encs (Value.int .u64) (pre.map (fun k=>Qsk l (k%chN l.length)))):=by
   have h:=Kd.own_of_R hR;rw[← hnn]at h;exact h
  rw[← hnn]at hv hR j0;have HNN:=QA hnn;have HNL:=QA hnl;clear hnn;have hown1:(W.drew.alloc (.cells #[.int .u64 (Qsk l y)] 34)).ownsRow W0.heap.size 34 1 (.slice A nn c) nn (encs (Value.int .u64) (pre.map (fun k=>Qsk l (k%chN l.length)))):=Qfk (Qfr hown) _;obtain⟨i0,hi,hzz⟩:=Option.map_eq_some_iff.1 info34;simp only[Prod.mk.injEq]at hzz;obtain⟨hz0,hz1,hz2⟩:=hzz;have hwsz:w.heap.size≤W.drew.heap.size:=hB.size;have hwsz0:W0.heap.size≤W.drew.heap.size:=hz;obtain⟨v1,w1,hrun,hown2,d,_,hat⟩:=run_append_own_at (P:=Tryz.prog) (W.drew.alloc (.cells #[.int .u64 (Qsk l y)] 34)) W0.heap.size 70 70 34 i0 _ 1 8 Tryz.underlying70 hi hz0 hz1 hz2 rfl (by omega) (.slice A nn c) nn _ hown1 ⟨W.drew.heap.size,0,none⟩ 1 1 [.int .u64 (Qsk l y)] rfl
   (by simpa using World.news_of_block (cs:=#[.int .u64 (Qsk l y)]) (t:=34) (fr:=(0,0)) (heap_alloc_new W.drew (.cells #[.int .u64 (Qsk l y)] 34))) (fun u hu=>by simp at hu;rw[hu];rfl) (by unfold maxLen;unfold chN at hlt;omega) (by unfold chN at hlt;omega) (by rw[World.size_alloc];omega)
  have HY:=QA hy;have HE:=QA he;have HQ:=QA hq;have HI:=QA hi;have j0b:∀o,(W.alloc o).cell? ⟨w.heap.size,0,none⟩=some (.slice A nn c):=fun o=>(Qdv (Qef hv o) 0).trans rfl
  have j0a:∀o,(W.drew.alloc o).cell? ⟨w.heap.size,0,none⟩=some (.slice A nn c):=fun o=>(Qdv (Qef (w:=W.drew) hv o) 0).trans rfl
  have he1:0<e:=by omega
  have hvd:=Qef (w:=W.drew) hv (.cells #[.int .u64 (Qsk l y)] 34);have hv1:=Qdx hvd d (Kd.R_ne hR hv (by decide));have hfw:=Qdw hv1 0;have hjw:w1.cell? ⟨w.heap.size,0,none⟩=some (.slice A nn c):=(Qdv hv1 0).trans rfl;have hR1:RU w1 W0.heap.size v1 ((pre++[x]).map (fun k=>Qsk l (k%chN l.length))):=by
   have hlen:((pre++[x]).map (fun k=>Qsk l (k%chN l.length))).length=nn+1:=by rw[List.length_map,List.length_append,HNL.out];rfl
   refine Kd.R_of_own ?_ (fun _ _=>trivial);rw[hlen,List.map_append,Qec];rw[hy,HMM.out]at hown2;exact hown2
  obtain⟨A1,c1,rfl⟩:=Kd.R_slice hR1;have hKo:KeepsOthers W w1:=(((KeepsOthers.drew W).trans (KeepsOthers.alloc _ _)).trans (KeepsOthers.of_grownBy d (fun j o e1 ho=>by
   obtain⟨cells,hcs⟩:=Kd.R_typed hR j e1;have h2:=Qef (w:=W.drew) hcs (.cells #[.int .u64 (Qsk l y)] 34);rw[h2]at ho
   cases ho
   rfl)))
  have hBw1:Below w.heap.size w w1:=(((hB.trans (Qcx (Below.refl _ _))).alloc hwsz _)).grown d (by rw[World.size_alloc];omega) (fun k hk=>Nat.le_trans hB0.size (Kd.R_base hR k hk));have hMid:Mid (w.heap.size+1) W0.heap.size W w1:=by
   refine⟨Nat.le_trans (by rw[World.size_alloc];exact Nat.le_succ _) d.size,fun k h1 h2=>?_⟩;have h3:=d.block k (by rw[World.size_alloc];omega) (fun e'=>by have:=Kd.R_base hR k e'.symm;omega);rw[h3];exact Below.heap_alloc W.drew _ k (by omega)
  have hsc:∀u,(w1.setCell ⟨w.heap.size,0,none⟩ u).heap.size=w1.heap.size:=fun u=>by simp[World.setCell]
  have hzw:W0.heap.size≤w1.heap.size:=Nat.le_trans hz hMid.1;have a:=QA hR1;have HV1:=QA hv1;clear hR1 hv1 hvd;have hmo:Tryz.prog.follows .mixedOrders=true:=by kernel_rfl
  clear hnl hy he hq hi hz0 hz1 hz2 hown hown1
  gi_wp2_with fail
  refine wpIn_region_any hmo ?_
  change wpAnyIn _ _ _ _ _ _ _ _ _ (World.drew _)
  refine wpAnyIn_ready (rs:=[0,1]) qq_7 (by simp) ?_;refine AllReadyIn.cons rfl (fun K hK=>?_) ?_
  ·go_simp;refine hK _ _ ?_;clear hK K;refine wpAnyIn_ready (rs:=[1]) qq_7 (by simp) ?_;refine AllReadyIn.cons rfl (fun K hK=>?_) ?_
   ·go_simp;refine hK _ _ ?_;clear hK K;refine wpAnyIn_ready (rs:=[2]) qq_7 (by simp) ?_;refine AllReadyIn.cons rfl (fun K hK=>?_) ?_
    ·go_simp;refine hK _ _ ?_;clear hK K;refine wpAnyIn_ready (rs:=[3]) qq_7 (by simp) ?_;refine AllReadyIn.cons rfl (fun K hK=>?_) ?_
     ·go_simp;refine hK _ _ ?_;clear hK K;refine wpAnyIn_ready (rs:=[4]) qq_7 (by simp) ?_;refine AllReadyIn.cons rfl (fun K hK=>?_) ?_
      ·go_simp;refine hK _ _ ?_;clear hK K;refine wpAnyIn_ready (rs:=[5]) qq_7 (by simp) ?_;refine AllReadyIn.cons rfl (fun K hK=>?_) ?_
       ·go_simp;refine hK _ _ ?_;clear hK K;refine wpAnyIn_ready (rs:=[6]) qq_7 (by simp) ?_;refine AllReadyIn.cons rfl (fun K hK=>?_) AllReadyIn.nil;refine Qsj (s:=.tmp 8) (x:=.tmp 13) (t:=70) (by rfl) rfl rfl rfl hrun ?_;go_simp;refine hK _ _ ?_;clear hK K;refine wpAnyIn_ready (rs:=[7]) qq_7 (by simp) ?_;refine AllReadyIn.cons rfl (fun K hK=>?_) AllReadyIn.nil;go_simp;refine hK _ _ ?_;clear hK K;refine wpAnyIn_done qq_7 ?_ _;refine⟨(hKo.trans (KeepsOthers.setCell _ _ _)).from _,⟨by rw[hsc];exact hMid.1,fun k h1 h2=>?_⟩,⟨_,Qds HV1.out 0 _,?_⟩,Qjo hBw1 (Nat.le_refl _),by rw[hsc];exact hzw⟩
        ·rw[Below.heap_setCell _ _ _ k (by show k≠w.heap.size;omega)];exact hMid.2 k h1 h2
        ·have h:=Kd.R_set a.out HV1.out (by decide) 0 (.slice A1 (pre.length+1) c1);simp only[List.length_map,List.length_append,List.length_cons,List.length_nil,Nat.zero_add]at h;exact h
       exact AllReadyIn.nil
      exact AllReadyIn.nil
     exact AllReadyIn.nil
    exact AllReadyIn.nil
   exact AllReadyIn.nil
  refine AllReadyIn.cons rfl (fun K hK=>?_) ?_
  ·go_simp;refine hK _ _ ?_;clear hK K;refine wpAnyIn_ready (rs:=[0,2]) qq_7 (by simp) ?_;refine AllReadyIn.cons rfl (fun K hK=>?_) ?_
   ·go_simp;refine hK _ _ ?_;clear hK K;refine wpAnyIn_ready (rs:=[2]) qq_7 (by simp) ?_;refine AllReadyIn.cons rfl (fun K hK=>?_) ?_
    ·go_simp;refine hK _ _ ?_;clear hK K;refine wpAnyIn_ready (rs:=[3]) qq_7 (by simp) ?_;refine AllReadyIn.cons rfl (fun K hK=>?_) ?_
     ·go_simp;refine hK _ _ ?_;clear hK K;refine wpAnyIn_ready (rs:=[4]) qq_7 (by simp) ?_;refine AllReadyIn.cons rfl (fun K hK=>?_) ?_
      ·go_simp;refine hK _ _ ?_;clear hK K;refine wpAnyIn_ready (rs:=[5]) qq_7 (by simp) ?_;refine AllReadyIn.cons rfl (fun K hK=>?_) ?_
       ·go_simp;refine hK _ _ ?_;clear hK K;refine wpAnyIn_ready (rs:=[6]) qq_7 (by simp) ?_;refine AllReadyIn.cons rfl (fun K hK=>?_) AllReadyIn.nil;refine Qsj (s:=.tmp 8) (x:=.tmp 13) (t:=70) (by rfl) rfl rfl rfl hrun ?_;go_simp;refine hK _ _ ?_;clear hK K;refine wpAnyIn_ready (rs:=[7]) qq_7 (by simp) ?_;refine AllReadyIn.cons rfl (fun K hK=>?_) AllReadyIn.nil;go_simp;refine hK _ _ ?_;clear hK K;refine wpAnyIn_done qq_7 ?_ _;refine⟨(hKo.trans (KeepsOthers.setCell _ _ _)).from _,⟨by rw[hsc];exact hMid.1,fun k h1 h2=>?_⟩,⟨_,Qds HV1.out 0 _,?_⟩,Qjo hBw1 (Nat.le_refl _),by rw[hsc];exact hzw⟩
        ·rw[Below.heap_setCell _ _ _ k (by show k≠w.heap.size;omega)];exact hMid.2 k h1 h2
        ·have h:=Kd.R_set a.out HV1.out (by decide) 0 (.slice A1 (pre.length+1) c1);simp only[List.length_map,List.length_append,List.length_cons,List.length_nil,Nat.zero_add]at h;exact h
       exact AllReadyIn.nil
      exact AllReadyIn.nil
     exact AllReadyIn.nil
    exact AllReadyIn.nil
   refine AllReadyIn.cons rfl (fun K hK=>?_) ?_
   ·go_simp;refine hK _ _ ?_;clear hK K;refine wpAnyIn_ready (rs:=[0,3]) qq_7 (by simp) ?_;refine AllReadyIn.cons rfl (fun K hK=>?_) ?_
    ·go_simp;refine hK _ _ ?_;clear hK K;refine wpAnyIn_ready (rs:=[3]) qq_7 (by simp) ?_;refine AllReadyIn.cons rfl (fun K hK=>?_) ?_
     ·go_simp;refine hK _ _ ?_;clear hK K;refine wpAnyIn_ready (rs:=[4]) qq_7 (by simp) ?_;refine AllReadyIn.cons rfl (fun K hK=>?_) ?_
      ·go_simp;refine hK _ _ ?_;clear hK K;refine wpAnyIn_ready (rs:=[5]) qq_7 (by simp) ?_;refine AllReadyIn.cons rfl (fun K hK=>?_) ?_
       ·go_simp;refine hK _ _ ?_;clear hK K;refine wpAnyIn_ready (rs:=[6]) qq_7 (by simp) ?_;refine AllReadyIn.cons rfl (fun K hK=>?_) AllReadyIn.nil;refine Qsj (s:=.tmp 8) (x:=.tmp 13) (t:=70) (by rfl) rfl rfl rfl hrun ?_;go_simp;refine hK _ _ ?_;clear hK K;refine wpAnyIn_ready (rs:=[7]) qq_7 (by simp) ?_;refine AllReadyIn.cons rfl (fun K hK=>?_) AllReadyIn.nil;go_simp;refine hK _ _ ?_;clear hK K;refine wpAnyIn_done qq_7 ?_ _;refine⟨(hKo.trans (KeepsOthers.setCell _ _ _)).from _,⟨by rw[hsc];exact hMid.1,fun k h1 h2=>?_⟩,⟨_,Qds HV1.out 0 _,?_⟩,Qjo hBw1 (Nat.le_refl _),by rw[hsc];exact hzw⟩
        ·rw[Below.heap_setCell _ _ _ k (by show k≠w.heap.size;omega)];exact hMid.2 k h1 h2
        ·have h:=Kd.R_set a.out HV1.out (by decide) 0 (.slice A1 (pre.length+1) c1);simp only[List.length_map,List.length_append,List.length_cons,List.length_nil,Nat.zero_add]at h;exact h
       exact AllReadyIn.nil
      exact AllReadyIn.nil
     exact AllReadyIn.nil
    refine AllReadyIn.cons rfl (fun K hK=>?_) ?_
    ·go_simp;refine hK _ _ ?_;clear hK K;refine wpAnyIn_ready (rs:=[0,4]) qq_7 (by simp) ?_;refine AllReadyIn.cons rfl (fun K hK=>?_) ?_
     ·go_simp;refine hK _ _ ?_;clear hK K;refine wpAnyIn_ready (rs:=[4]) qq_7 (by simp) ?_;refine AllReadyIn.cons rfl (fun K hK=>?_) ?_
      ·go_simp;refine hK _ _ ?_;clear hK K;refine wpAnyIn_ready (rs:=[5]) qq_7 (by simp) ?_;refine AllReadyIn.cons rfl (fun K hK=>?_) ?_
       ·go_simp;refine hK _ _ ?_;clear hK K;refine wpAnyIn_ready (rs:=[6]) qq_7 (by simp) ?_;refine AllReadyIn.cons rfl (fun K hK=>?_) AllReadyIn.nil;refine Qsj (s:=.tmp 8) (x:=.tmp 13) (t:=70) (by rfl) rfl rfl rfl hrun ?_;go_simp;refine hK _ _ ?_;clear hK K;refine wpAnyIn_ready (rs:=[7]) qq_7 (by simp) ?_;refine AllReadyIn.cons rfl (fun K hK=>?_) AllReadyIn.nil;go_simp;refine hK _ _ ?_;clear hK K;refine wpAnyIn_done qq_7 ?_ _;refine⟨(hKo.trans (KeepsOthers.setCell _ _ _)).from _,⟨by rw[hsc];exact hMid.1,fun k h1 h2=>?_⟩,⟨_,Qds HV1.out 0 _,?_⟩,Qjo hBw1 (Nat.le_refl _),by rw[hsc];exact hzw⟩
        ·rw[Below.heap_setCell _ _ _ k (by show k≠w.heap.size;omega)];exact hMid.2 k h1 h2
        ·have h:=Kd.R_set a.out HV1.out (by decide) 0 (.slice A1 (pre.length+1) c1);simp only[List.length_map,List.length_append,List.length_cons,List.length_nil,Nat.zero_add]at h;exact h
       exact AllReadyIn.nil
      exact AllReadyIn.nil
     refine AllReadyIn.cons rfl (fun K hK=>?_) ?_
     ·go_simp;refine hK _ _ ?_;clear hK K;refine wpAnyIn_ready (rs:=[0,5]) qq_7 (by simp) ?_;refine AllReadyIn.cons rfl (fun K hK=>?_) ?_
      ·go_simp;refine hK _ _ ?_;clear hK K;refine wpAnyIn_ready (rs:=[5]) qq_7 (by simp) ?_;refine AllReadyIn.cons rfl (fun K hK=>?_) ?_
       ·go_simp;refine hK _ _ ?_;clear hK K;refine wpAnyIn_ready (rs:=[6]) qq_7 (by simp) ?_;refine AllReadyIn.cons rfl (fun K hK=>?_) AllReadyIn.nil;refine Qsj (s:=.tmp 8) (x:=.tmp 13) (t:=70) (by rfl) rfl rfl rfl hrun ?_;go_simp;refine hK _ _ ?_;clear hK K;refine wpAnyIn_ready (rs:=[7]) qq_7 (by simp) ?_;refine AllReadyIn.cons rfl (fun K hK=>?_) AllReadyIn.nil;go_simp;refine hK _ _ ?_;clear hK K;refine wpAnyIn_done qq_7 ?_ _;refine⟨(hKo.trans (KeepsOthers.setCell _ _ _)).from _,⟨by rw[hsc];exact hMid.1,fun k h1 h2=>?_⟩,⟨_,Qds HV1.out 0 _,?_⟩,Qjo hBw1 (Nat.le_refl _),by rw[hsc];exact hzw⟩
        ·rw[Below.heap_setCell _ _ _ k (by show k≠w.heap.size;omega)];exact hMid.2 k h1 h2
        ·have h:=Kd.R_set a.out HV1.out (by decide) 0 (.slice A1 (pre.length+1) c1);simp only[List.length_map,List.length_append,List.length_cons,List.length_nil,Nat.zero_add]at h;exact h
       exact AllReadyIn.nil
      refine AllReadyIn.cons rfl (fun K hK=>?_) ?_
      ·go_simp;refine hK _ _ ?_;clear hK K;refine wpAnyIn_ready (rs:=[0]) qq_7 (by simp) ?_;refine AllReadyIn.cons rfl (fun K hK=>?_) ?_
       ·go_simp;refine hK _ _ ?_;clear hK K;refine wpAnyIn_ready (rs:=[6]) qq_7 (by simp) ?_;refine AllReadyIn.cons rfl (fun K hK=>?_) AllReadyIn.nil;refine Qsj (s:=.tmp 8) (x:=.tmp 13) (t:=70) (by rfl) rfl rfl rfl hrun ?_;go_simp;refine hK _ _ ?_;clear hK K;refine wpAnyIn_ready (rs:=[7]) qq_7 (by simp) ?_;refine AllReadyIn.cons rfl (fun K hK=>?_) AllReadyIn.nil;go_simp;refine hK _ _ ?_;clear hK K;refine wpAnyIn_done qq_7 ?_ _;refine⟨(hKo.trans (KeepsOthers.setCell _ _ _)).from _,⟨by rw[hsc];exact hMid.1,fun k h1 h2=>?_⟩,⟨_,Qds HV1.out 0 _,?_⟩,Qjo hBw1 (Nat.le_refl _),by rw[hsc];exact hzw⟩
        ·rw[Below.heap_setCell _ _ _ k (by show k≠w.heap.size;omega)];exact hMid.2 k h1 h2
        ·have h:=Kd.R_set a.out HV1.out (by decide) 0 (.slice A1 (pre.length+1) c1);simp only[List.length_map,List.length_append,List.length_cons,List.length_nil,Nat.zero_add]at h;exact h
       exact AllReadyIn.nil
      exact AllReadyIn.nil
     exact AllReadyIn.nil
    exact AllReadyIn.nil
   exact AllReadyIn.nil
  exact AllReadyIn.nil
 case done =>
  rintro D ys W hD rfl ⟨⟨v,hv,hR⟩,hB,hz⟩ hK;obtain⟨A,c,rfl⟩:=Kd.R_slice hR;have j0:W.cell? ⟨w.heap.size,0,none⟩=_:=(Qdv hv 0).trans rfl
  gi_wp2
  refine⟨by simp,.inl ⟨_,_,rfl,run_takeDeferred hK,?_⟩⟩;have hlen:(List.map (fun k=>Qsk l (k%chN l.length)) (List.range (chN m))).length=chN m:=by simp
  rw[hlen]at hR;have hfl:List.map (fun k=>Qsk l (k%chN l.length)) (List.range (chN m))=Qsl l:=by
   rw[HMM.out];unfold Qsl;apply List.map_congr_left;intro k hk;rw[Nat.mod_eq_of_lt (List.mem_range.1 hk)]
  rw[hfl]at hR;refine⟨.slice A (chN m) c,by simp[results,Tryz.f115,go_sem],⟨_,rfl,?_⟩,hB.trans (belowK_b (w:=w) (Nat.le_refl _) _ D _ _ (by omega) hK rfl rfl)⟩;refine Kd.R_lower (ru_put hR hK rfl) hB0.size
 case stop =>
  rintro D c pre W hD hpre hf;exact hf.elim
theorem Qso(ad:Addr)(c0 m:Nat)(l:List Ent)(w:World)(hmm:m=l.length)(hr0:Kd.C k117 w (some ad) m l)(hc:m≤c0)(hm:m≤1099511627776) :
  Calls Tryz.prog 115 #[.slice (some ad) m c0] w fun e w'=>(∃v,e=.returned v∧RU w' w.heap.size v (Qsl l))∧Below w.heap.size w w' :=
 (callsIn_wide (n:=3)).1 (Qsn Fence.wide 3 trivial trivial trivial rfl (by omega) ad c0 m l w hmm hr0 hc hm)
end Go.Proofs.YtnnofopfbeklbaaGreat.C
end
section
namespace Go.Proofs.YtnnofopfbeklbaaGreat.C
open Go.RowKit Go.Proofs.YtnnofopfbeklbaaGreatW.PrintWords Go.Proofs.YtnnofopfbeklbaaGreatW.PrintLast Go.Proofs.YtnnofopfbeklbaaGreatW.PrintMore
open Go.Sort
attribute [local go_sem high] eqA117
def encE(x:Ent):List Value:=[.int .u64 x.f0,.int .u32 x.f1]
def Qsp(l:List Ent):List Value:=l.flatMap encE
abbrev RE(W:World)(b:Nat)(v:Value)(l:List Ent):Prop:=Kd.R k117 117 W b (fun _=>True) v l
theorem Qsq(l:List Ent):(Qsp l).length=l.length*2:=by
 induction l with
 | nil=>rfl
 | cons a l ih=>simp only[Qsp,List.flatMap_cons,List.length_append,encE,List.length_cons,List.length_nil]at ih ⊢;omega
theorem Qsr:∀(l:List Ent) (j:Nat) (h:j<l.length),((Qsp l).drop (j*2)).take 2=encE l[j]
 | a :: l,0,_=>rfl
 | a :: l,j+1,h=>by
  have:=Qsr l j (by simpa using h);rw[show(j+1)*2=j*2+2 by omega];exact this
theorem Qss(l:List Ent)(j:Nat):(Qsp l)[2*j]? = l[j]?.map (fun x=>Value.int .u64 x.f0)∧(Qsp l)[2*j+1]? = l[j]?.map (fun x=>Value.int .u32 x.f1):=by
 induction l generalizing j with
 | nil=>simp[Qsp]
 | cons a l ih =>
  cases j with
  | zero=>simp[Qsp,encE]
  | succ j =>
   have:=ih j;rw[show 2*(j+1)=2*j+2 by omega];exact this
theorem repsE{R:Ent→List Value→Prop}(hR:∀x,R x (encE x))(l:List Ent):Reps R 2 l (Qsp l):=by
 refine⟨Qsq l,fun j p hj=>?_⟩;obtain⟨h,rfl⟩:=List.getElem?_eq_some_iff.1 hj;rw[Qsr l j h];exact hR _
theorem Qst{R:Ent→List Value→Prop}(hR:∀x c,R x c→c=encE x){l:List Ent}{cs:List Value}(h:Reps R 2 l cs):cs=Qsp l:=by
 have hl:cs.length=l.length*2:=h.1;apply List.ext_getElem?;intro t
 by_cases ht:t<l.length*2
 ·have hj:t/2<l.length:=by omega
  have h1:=hR _ _ (h.2 (t/2) _ (List.getElem?_eq_getElem hj));have h2:=Qsr l (t/2) hj;rw[← h1]at h2;have e:∀xs:List Value,((xs.drop (t/2*2)).take 2)[t%2]? = xs[t]?:=by
   intro xs;rw[List.getElem?_take,if_pos (Nat.mod_lt _ (by omega)),List.getElem?_drop]
   congr 1
   omega
  rw[← e cs,← e (Qsp l),h2]
 ·rw[List.getElem?_eq_none (by omega),List.getElem?_eq_none (by rw[Qsq];omega)]
theorem RE.of_own{W:World}{b:Nat}{v:Value}{l:List Ent}(h:W.ownsRow b 117 2 v l.length (Qsp l)):RE W b v l :=
 ⟨fun _ _=>trivial,Qsp l,h,repsE (fun x=>Qiy _ _ _ x) l⟩
theorem RE.own{W:World}{b:Nat}{v:Value}{l:List Ent}(h:RE W b v l):W.ownsRow b 117 2 v l.length (Qsp l):=by
 obtain⟨_,inner,ho,hr⟩:=h;have e:=Qst (fun x c hM=>Qix hM) hr;rw[← e];exact ho
def Qsu(l:List Ent):List Ent:=l.mergeSort (fun x y=>!(ltOf cfE) y x)
theorem Qsv(l:List Ent):(Qsu l).length=l.length:=List.length_mergeSort _
theorem Qsw(x y:Ent):ltOf cfE x y=(decide (x.f0<y.f0) ||(decide (x.f0=y.f0) && decide (x.f1<y.f1))):=by
 unfold ltOf cfE
 by_cases h1:x.f0<y.f0
 ·simp[h1]
 ·by_cases h2:y.f0<x.f0
  ·have:x.f0≠y.f0:=by omega
   simp[h1,h2,this]
  ·have:x.f0=y.f0:=by omega
   by_cases h3:x.f1<y.f1
   ·simp[h1,h2,h3,this]
   ·by_cases h4:y.f1<x.f1<;>simp[h1,h2,h3,h4,this]
theorem swoE:SWO (ltOf cfE) where
 irrefl x:=by rw[Qsw];simp
 trans x y z h1 h2:=by rw[Qsw]at *;simp at *;omega
 ntrans x y z h1 h2:=by rw[Qsw]at *;simp at *;omega
theorem totE(x y:Ent)(h1:ltOf cfE x y=false)(h2:ltOf cfE y x=false):x=y:=by
 rw[Qsw]at h1 h2;simp at h1 h2
 cases x;cases y
 simp_all
 omega
instance:Inhabited Ent:=⟨⟨0,0⟩⟩
theorem Qsx(blk off size:Nat)(w:World):CmpLays Tryz.prog 118 #[] encE 2 cfE blk off size w :=
 fun _ _ _ _ x y=>cmp_gr x y _
theorem Qsy(l:List Ent):(flatK encE 2 l.toArray).toList=Qsp l:=by
 apply List.ext_getElem?;intro t;have hs:(flatK encE 2 l.toArray).size=l.length*2:=by simp
 by_cases ht:t<l.length*2
 ·rw[Array.getElem?_toList,Array.getElem?_eq_getElem (by rw[hs];exact ht)];have h1:=get_flatK encE 2 l.toArray t (by simpa using ht);rw[getElem!_pos (flatK encE 2 l.toArray) t (by rw[hs];exact ht)]at h1;have hj:t/2<l.length:=by omega
  have hx:l.toArray[t/2]! = l[t/2]:=by rw[getElem!_pos l.toArray (t/2) (by simpa using hj)];simp
  rw[h1,hx];have h2:=Qss l (t/2);rw[List.getElem?_eq_getElem hj]at h2
  rcases Nat.mod_two_eq_zero_or_one t with h0|h0
  ·have h3:=h2.1;rw[show 2*(t/2)=t by omega]at h3;rw[h0,h3];rfl
  ·have h3:=h2.2;rw[show 2*(t/2)+1=t by omega]at h3;rw[h0,h3];rfl
 ·rw[List.getElem?_eq_none qq_20,List.getElem?_eq_none (by rw[Qsq];omega)]
theorem Qsz{W:World}{b g cap:Nat}{l:List Ent}(h:W.ownsRow b 117 2 (.slice (some ⟨g,0,none⟩) l.length cap) l.length (Qsp l)):HoldsK encE 2 W g 0 l.toArray:=by
 rcases h.2 with⟨hn,_⟩ |⟨g',cap',cur,he,hb,hh,h1,h2,h3,h4⟩
 ·cases hn
 cases he
 intro j hj;have hj':j<l.length*2:=by simpa using hj
 refine⟨?_,by simp[World.frozen?,hh]⟩;have h5:(cur.toList.take (l.length*2))[j]? = (Qsp l)[j]?:=by rw[h4]
 rw[List.getElem?_take_of_lt hj']at h5;simp only[World.cell?,hh,Nat.zero_add];simp only[Option.isSome_none,Bool.false_eq_true,if_false];rw[← Array.getElem?_toList,h5,← Qsy l,Array.getElem?_toList,Array.getElem?_eq_getElem hj,getElem!_pos (flatK encE 2 l.toArray) j hj];rfl
theorem heapE{w:World}{g n:Nat}{os:Array Obj}{cur:Array Value}{e:TypeId}{fr:Nat × Nat}(d:Array Ent)(hb:w.heap[g]? = some (.cells cur e fr)) :
  (sortWorldK encE 2 w g 0 n d os).heap[g]? = some (.cells (putCells id 0 (flatK encE 2 d) cur) e fr):=by
 have hg:g<w.heap.size:=(Array.getElem?_eq_some_iff.1 hb).1;unfold sortWorldK putRowK;rw[heap_grow_old _ _ (by simpa using hg)];simp[putRow,mapBlock,Sort.ahead,Array.getElem?_modify,hb,onCells]
theorem grownE{w:World}{g n:Nat}{os:Array Obj}(d:Array Ent):w.grownBy (sortWorldK encE 2 w g 0 n d os) (some g):=by
 unfold sortWorldK putRowK;refine⟨rfl,rfl,rfl,by simp,fun k hk hne=>?_⟩;rw[heap_grow_old _ _ (by simpa using hk)];have:g≠k:=fun e=>hne (by rw[e])
 simp[putRow,mapBlock,Sort.ahead,Array.getElem?_modify,this]
theorem takeE(cur:Array Value)(l:List Ent)(h:l.length*2≤cur.size):(putCells id 0 (flatK encE 2 l.toArray) cur).toList.take (l.length*2)=Qsp l:=by
 apply List.ext_getElem?;intro j
 by_cases hj:j<l.length*2
 ·rw[List.getElem?_take_of_lt hj,Array.getElem?_toList,← Qsy l,Array.getElem?_toList];have hs:(flatK encE 2 l.toArray).size=l.length*2:=by simp
  rw[Array.getElem?_eq_getElem (xs:=flatK encE 2 l.toArray) (by rw[hs];exact hj)];simp only[putCells,Array.getElem?_mapIdx,Nat.zero_le,true_and,Nat.zero_add,hs,hj,if_true,Nat.sub_zero,id];rw[Array.getElem?_eq_getElem (xs:=cur) (by omega),getElem!_pos (flatK encE 2 l.toArray) j (by rw[hs];exact hj)];rfl
 ·rw[List.getElem?_take_eq_none (by omega),List.getElem?_eq_none (by rw[Qsq];omega)]
theorem Qta{w:World}{b g cap n:Nat}{os:Array Obj}{l m:List Ent}(hl:m.length=l.length)(h:w.ownsRow b 117 2 (.slice (some ⟨g,0,none⟩) l.length cap) l.length (Qsp l)) :
  (sortWorldK encE 2 w g 0 n m.toArray os).ownsRow b 117 2 (.slice (some ⟨g,0,none⟩) l.length cap) l.length (Qsp m):=by
 rcases h.2 with⟨hn,_⟩ |⟨g',cap',cur,he,hb,hh,h1,h2,h3,h4⟩
 ·cases hn
 cases he
 exact⟨by rw[Qsq,hl],.inr ⟨g,cap,_,rfl,hb,heapE _ hh,h1,h2,by simp[putCells,h3],by rw[← hl];exact takeE cur m (by omega)⟩⟩
theorem Qtb(b:Nat)(v:Value)(l:List Ent)(w:World)(hR:RE w b v l)(hl:l.length≤1099511627776) :
  Calls Tryz.prog 116 #[v] w fun e w'=>∃v1,e=.returned v1∧RE w' w.heap.size v1 l∧Below w.heap.size w w':=by
 have ho:=RE.own hR
 rcases ho.2 with⟨rfl,hn⟩ |⟨g,cap,cur,rfl,hb,hh,h1,h2,h3,h4⟩
 ·have hcon:=AnyE.slices_Clone_nil Tryz.cloneEnt 0 0 w;refine hcon.mono fun e w' ⟨he,hw⟩=>⟨_,he,?_,?_⟩
  ·have h0:l=[]:=List.eq_nil_of_length_eq_zero (by omega);rw[h0];exact Kd.R_nil _ _ _ _ _
  ·rw[hw];exact Below.refl _ _
 ·obtain⟨i0,hi,hzz⟩:=Option.map_eq_some_iff.1 Qsf;simp only[Prod.mk.injEq]at hzz;obtain⟨hz0,hz1,hz2⟩:=hzz;have hcon:=AnyE.slices_Clone Tryz.cloneEnt i0 _ 2 16 hi hz0 hz1 hz2 rfl (by omega) Tryz.sizeOf117 g 0 l.length cap (Qsp l) w (Qsq l) (by unfold maxLen;omega) (by omega) (fun j u hj=>by
    have hj':j<l.length*2:=by
     have:=(List.getElem?_eq_some_iff.1 hj).1;rw[Qsq]at this;exact this
    have h5:(cur.toList.take (l.length*2))[j]? = (Qsp l)[j]?:=by rw[h4]
    rw[List.getElem?_take_of_lt hj']at h5;simp only[World.cell?,hh,Nat.zero_add];simp only[Option.isSome_none,Bool.false_eq_true,if_false];rw[← Array.getElem?_toList,h5,hj]) (fun u hu=>by
    obtain⟨x,_,hx⟩:=List.mem_flatMap.1 hu;simp[encE]at hx
    rcases hx with rfl|rfl<;>rfl)
  exact hcon.mono fun e w' ⟨v',he,hown,_,hb'⟩=>⟨v',he,RE.of_own hown,hb'⟩
def Apart(l:List Ent):Prop:=∀i:Nat,i+1<l.length→(Qiz l ((i+1:Nat):Int)).f0≠(Qiz l (i:Int)).f0∨(Qiz l ((i+1:Nat):Int)).f1≠(Qiz l (i:Int)).f1
theorem Qtc(A:Option Addr)(n c:Nat)(l:List Ent)(w:World)(hn:n=l.length)(hC:Kd.C k117 w A n l)(hA:Apart l)(hl:l.length≤1099511627776) :
  Calls Tryz.prog 119 #[.slice A n c] w fun e w'=>e=.returned (.slice A n c)∧Drawn0 w w':=by
 have hu:=Tryz.underlying117;have HN:=QA hn;have HL:n≤1099511627776:=by omega
 have HC:=QA hC;have HA:=QA hA;clear hn hC hA hl
 by_cases h2:n<2
 ·have hb:decide ((n:Int)<2)=true:=decide_eq_true (by omega)
  go_enter Tryz.func119,Tryz.ntmps119
  go_wp2;go_ret
  exact⟨rfl,Drawn0.refl _⟩
 ·have hb:decide ((n:Int)<2)=false:=decide_eq_false (by omega)
  go_enter Tryz.func119,Tryz.ntmps119
  go_wp2
  go_loopw [3] (fun i wr=>∃(k:Nat) (iv:Int),1≤k∧k≤n∧i=.int .i64 iv∧Aside0 (iv=(k:Int))∧Drawn0 w wr) (fun i _=>((n:Int)-intOf i).toNat)
  case atStart=>exact⟨1,1,by omega,by omega,rfl,⟨rfl⟩,Drawn0.refl _⟩
  case round =>
   obtain⟨k,iv,hk1,hkn,rfl,HI,⟨m1,rfl⟩⟩:=hrel
   by_cases hlt:k<n
   ·have h0:0≤iv:=by have:=HI.out;omega
    have h1:iv<(n:Int):=by have:=HI.out;omega
    obtain⟨jv,hjv⟩:∃jv,jv=iv-1:=⟨_,rfl⟩;have hm:0≤jv:=by have:=HI.out;omega
    have hm1:jv<(n:Int):=by omega
    have hb1:decide (iv<(n:Int))=true:=decide_eq_true h1;obtain⟨ad,rfl,x0,x1⟩:=Qja HC.out iv h0 h1;obtain⟨ad',e',y0,y1⟩:=Qja HC.out jv hm hm1
    cases e'
    have hne:((Qiz l iv).f0 == (Qiz l jv).f0 && ((Qiz l iv).f1 == (Qiz l jv).f1))=false:=by
     have h:=HA.out (k-1) qq_22;rw[show k-1+1=k by omega,show((k-1:Nat):Int)=jv by(have:=HI.out;omega),← HI.out]at h
     rcases h with h|h<;>simp[h]
    have hwr:IntKind.i64.wrap (iv-1)=jv:=by rw[IntWalk.i64_in _ (by omega)];exact hjv.symm
    have HJ:=QA hjv;clear hjv;go_wp2
    go_quiet (fail)
    clear hwr;go_wp2
    go_roundw
    case rel=>exact⟨k+1,iv+1,by omega,by omega,by go_num,⟨by have:=HI.out;omega⟩,by repeat(first|exact Drawn0.refl _|apply Drawn0.step)⟩
    case measure=>simp[intOf];omega
   ·have hge:¬iv<(n:Int):=by have:=HI.out;omega
    have hb1:decide (iv<(n:Int))=false:=decide_eq_false hge;go_wp2;go_ret
    exact⟨rfl,by repeat(first|exact Drawn0.refl _|apply Drawn0.step)⟩
theorem Qtd(b:Nat)(v:Value)(l:List Ent)(w:World)(hR:RE w b v l)(hl:l.length≤1099511627776) :
  Calls Tryz.prog 117 #[v,.func (.func 118) #[] #[]] w fun e w'=>e=.returned (.tuple #[])∧RE w' b v (Qsu l)∧w.grownBy w' v.ownBlock:=by
 have ho:=RE.own hR
 rcases ho.2 with⟨rfl,hn⟩ |⟨g,cap,cur,rfl,hb,hh,h1,h2,h3,h4⟩
 ·have hcon:=AnyF.slices_SortFunc_none (P:=Tryz.prog) (ρ:=Tryz.sortEnt_ren) { Tryz.sortEnt with } none 0 (.func (.func 118) #[] #[]) w;refine hcon.mono fun e w' ⟨he,hw⟩=>⟨he,?_,?_⟩
  ·have h0:l=[]:=List.eq_nil_of_length_eq_zero (by omega);rw[h0,show Qsu []=[] from List.eq_nil_of_length_eq_zero (Qsv [])];exact Kd.R_nil _ _ _ _ _
  ·rw[hw];exact World.grownBy.refl w _
 ·have eg:∀args w,(callFunc 118 args).run Tryz.prog w=.ok (.enter 118 args) w:=enters_of Tryz.func118 qq_7 rfl;have hcon:=AnyQ.slices_SortFunc_total Tryz.sortEnt 2 Tryz.isAgg117 Tryz.sizeOf117 encE (fun _=>rfl) (fun x v hv=>by simp[encE]at hv;rcases hv with rfl|rfl<;>rfl) cfE swoE 118 #[] g 0 cap l.toArray w eg (Qsx g 0 l.toArray.size w) (Qsz ho) (Qdu hh) qq_20 totE;refine hcon.mono fun e w' ⟨he,n,os,hw⟩=>⟨he,?_,?_⟩
  ·rw[hw];have hs:=Qta (n:=n) (os:=os) (m:=Qsu l) (Qsv l) ho;rw[← Qsv l]at hs;have:=RE.of_own hs;rw[Qsv l]at this;exact this
  ·rw[hw];exact grownE _
theorem Qte(l:List Ent):(Qsu l).Perm l:=List.mergeSort_perm _ _
theorem Qtf{l:List Ent}(h:l.Nodup):Apart (Qsu l):=by
 have hd:(Qsu l).Nodup:=(Qte l).nodup_iff.2 h;intro i hi;have e1:Qiz (Qsu l) ((i+1:Nat):Int)=(Qsu l)[i+1]:=by simp[Qiz,List.getElem?_eq_getElem hi]
 have e2:Qiz (Qsu l) (i:Int)=(Qsu l)[i]:=by simp[Qiz,List.getElem?_eq_getElem (show i<(Qsu l).length by omega)]
 rw[e1,e2]
 by_cases h0:(Qsu l)[i+1].f0=(Qsu l)[i].f0
 ·by_cases h1:(Qsu l)[i+1].f1=(Qsu l)[i].f1
  ·exfalso
   have he:(Qsu l)[i+1]=(Qsu l)[i]:=by
    generalize (Qsu l)[i+1]=x at *;generalize (Qsu l)[i]=y at *
    cases x;cases y;simp_all
   have h2:=List.pairwise_iff_getElem.1 hd i (i+1) (by omega) hi (by omega);exact h2 he.symm
  ·exact .inr h1
 ·exact .inl h0
theorem Qtg(b:Nat)(v:Value)(l:List Ent)(w:World)(hR:RE w b v l)(hd:l.Nodup)(hl:l.length≤1099511627776) :
  Calls Tryz.prog 68 #[v] w fun e w'=>∃v1,e=.returned v1∧RE w' w.heap.size v1 (Qsu l)∧Below w.heap.size w w':=by
 have HR:=QA hR;have HD:=QA (Qtf hd);obtain⟨A,c,rfl⟩:=Kd.R_slice hR;clear hR hd;obtain⟨n,hn⟩:∃n,n=l.length:=⟨_,rfl⟩;rw[← hn]at HR ⊢;have HN:=QA hn;clear hn
 go_enter Tryz.func68,Tryz.ntmps68
 go_wp2_with (first
  |(go_at_call 116;refine(Qtb b _ l _ HR.out hl).mono ?_;rintro e w1 ⟨v1,rfl,hR1,hb1⟩;obtain⟨A1,c1,e1⟩:=Kd.R_slice hR1;rw[← HN.out]at e1;subst e1;have HR1:=QA hR1;clear hR1)
  |(go_at_call 117;refine(Qtd _ _ l _ HR1.out hl).mono ?_;rintro e w2 ⟨rfl,hR2,hg2⟩;have HR2:=QA hR2;have hB2:Below w.heap.size w w2:=(hb1.grown hg2 hb1.size (fun k hk=>Kd.R_base HR1.out k hk));clear hR2 hg2)
  |(go_at_call 119;refine(Qtc A1 n c1 (Qsu l) _ (by rw[Qsv];exact HN.out) (by have h:=(Kd.R_reads' HR2.out).2.2;rw[Qsv,← HN.out]at h;exact h) HD.out (by rw[Qsv];exact hl)).mono ?_;rintro e w3 ⟨rfl,hd3⟩))
 go_ret
 refine⟨_,rfl,?_,hB2.trans (Qjp hd3.below hB2.size)⟩;exact Kd.R_below HR2.out hd3.below
end Go.Proofs.YtnnofopfbeklbaaGreat.C
end
section
namespace Go.Proofs.YtnnofopfbeklbaaGreat.C
open Go.RowKit Go.Proofs.YtnnofopfbeklbaaGreatW.PrintWords Go.Proofs.YtnnofopfbeklbaaGreatW.PrintLast Go.Proofs.YtnnofopfbeklbaaGreatW.PrintMore
def ltE(x y:Ent):Bool:=decide (cfE x y<0)
def Qth:List Ent→Bool
 | []=>true
 | [_]=>true
 | a :: b :: t=>ltE a b && Qth (b :: t)
theorem rdE(l:List Ent)(i:Nat)(h:i<l.length):Qiz l (i:Int)=l[i]:=by simp[Qiz,List.getElem?_eq_getElem h]
theorem Qti(x y:Ent)(k:Nat)(hk:4≤k):Qcr.f k x.f0 x.f1 y.f0 y.f1=some (cfE x y):=by
 unfold Qcr.f;rw[Qrg,Option.bind_some,Qrh,Option.bind_some,Qdo (g:=fun k=>Qah.f k [ci x.f0 y.f0,ci x.f1 y.f1]) (Qah.mono _) hk (or_is _ _),Option.bind_some,Qri]
theorem Qtj{l:List Ent}{i:Nat}(h:i+1<l.length):Qth (l.drop i)=(ltE l[i] l[i+1] && Qth (l.drop (i+1))):=by
 rw[List.drop_eq_getElem_cons (by omega),List.drop_eq_getElem_cons h];rfl
theorem Qtk(l:List Ent)(hl:l.length≤1099511627776):∀(d i k:Nat),i+d=l.length→1≤i→d+6≤k→Qcs.l0 k l (i:Int)=some (Qth (l.drop (i-1)))
 | 0,i,k,h,hi,hk=>by
  obtain⟨k,rfl⟩:∃m,k=m+1:=⟨k-1,by omega⟩;unfold Qcs.l0;rw[if_neg (by omega)];have h1:(l.drop (i-1)).length≤1:=by rw[List.length_drop];omega
  match hd:l.drop (i-1),h1 with
  | [],_=>rfl
  | [_],_=>rfl
 | d+1,i,k,h,hi,hk=>by
  obtain⟨k,rfl⟩:∃m,k=m+1:=⟨k-1,by omega⟩;obtain⟨j,rfl⟩:∃j,i=j+1:=⟨i-1,by omega⟩;have w1:wrap64 (((j+1:Nat):Int)-1)=(j:Int):=by unfold wrap64;omega
  have w2:wrap64 (((j+1:Nat):Int)+1)=((j+2:Nat):Int):=by unfold wrap64;omega
  unfold Qcs.l0;rw[w1,w2,rdE l (j+1) (by omega),rdE l j (by omega)];rw[if_pos (by omega)];clear w1 w2;have hc:=Qti l[j] l[j+1] k (by omega);have ih:=Qtk l hl d (j+2) k (by omega) (by omega) (by omega);rw[show j+2-1=j+1 by omega]at ih;rw[show j+1-1=j by omega,Qtj (by omega)];simp only[if_pos (show(0:Int)≤(j:Int)by omega),if_pos (show(j:Int)<(l.length:Int)by omega),if_pos (show(0:Int)≤((j+1:Nat):Int)by omega),if_pos (show((j+1:Nat):Int)<(l.length:Int)by omega),hc,Option.bind_some,ih];unfold ltE
  by_cases h0:cfE l[j] l[j+1]<0
  ·simp[h0,show ¬(0≤cfE l[j] l[j+1])by omega]
  ·simp[h0,show(0≤cfE l[j] l[j+1])by omega]
theorem Qtl(l:List Ent)(hl:l.length≤1099511627776):Qcs.f (l.length+8) l=some (Qth l):=by
 unfold Qcs.f
 rcases Nat.eq_zero_or_pos l.length with h0|h0
 ·have h1:l=[]:=List.eq_nil_of_length_eq_zero h0;subst h1;rfl
 ·exact Qtk l hl (l.length-1) 1 (l.length+8) (by omega) (by omega) (by omega)
def Qtm(used:Int)(l:List Ent):Int:=if l.length=0 then 4 else if 1048576<l.length then 3 else if Qth l=false then 8 else if l.any (fun x=>decide (used≤x.f1))=true then 4 else 0
theorem Qtn(used:Int)(tv:Value)(B:Nat)(w:World)(hv:w.heap[B]? = some (.cells #[.int .u32 used,tv] 127 (0,0))) :
  PredBelow Tryz.prog 159 #[.pointer (some ⟨B,0,none⟩)] (fun x=>.agg (encE x).toArray) (fun x=>decide (used≤x.f1)) w:=fun W x hb=>by
 have hB:=Qdu hv;have hc:W.cell? ⟨B,0,none⟩=some (.int .u32 used):=(Qdv (Qei hv hb) 0).trans rfl;have hne:B≠W.heap.size:=by have:=hb.size;omega
 have hu:=Tryz.underlying117;have hu2:=Tryz.underlying127;have hBW:B<W.heap.size:=Nat.lt_of_lt_of_le hB hb.size;show Calls Tryz.prog 159 #[.agg #[.int .u64 x.f0,.int .u32 x.f1],.pointer (some ⟨B,0,none⟩)] W _;have b1:=Qej W (.cells #[.int .u64 x.f0,.int .u32 x.f1] 117);have hb1:Below W.heap.size W (W.alloc (.cells #[.int .u64 x.f0,.int .u32 x.f1] 117)):=Qcw (Below.refl _ _) _;have hca:(W.alloc (.cells #[.int .u64 x.f0,.int .u32 x.f1] 117)).cell? ⟨B,0,none⟩=some (.int .u32 used):=(Qdv (Qef (Qei hv hb) _) 0).trans rfl;have hcb:(W.alloc (.cells #[.int .u64 x.f0,.int .u32 x.f1] 117)).cell? ⟨W.heap.size,1,none⟩=some (.int .u32 x.f1):=(Qdv b1 1).trans rfl
 go_enter Tryz.func159,Tryz.ntmps159
 go_wp2;go_ret
 exact⟨rfl,hb.alloc hb.size _⟩
theorem Qto(b:Nat)(used:Int)(A:Option Addr)(n c:Nat)(l:List Ent)(w:World)(hn:n=l.length)(hR:RE w b (.slice A n c) l)(hl:l.length≤1099511627776) :
  Calls Tryz.prog 111 #[.agg #[.int .u32 used,.slice A n c]] w fun e w'=>e=.returned (.int .i64 (Qtm used l))∧Below w.heap.size w w':=by
 have hu:=Tryz.underlying127;have hmf:∀(fn:Fn) (first cap:Array Value) (w:World),(Instr.makeFunc fn first cap).run Tryz.prog w=.ok (.func fn first cap) w:=fun _ _ _ _=>rfl
 have hb1:Below w.heap.size w (w.alloc (.cells #[.int .u32 used,.slice A n c] 127)):=Qcw (Below.refl _ _) _;have bk:=Qej w (.cells #[.int .u32 used,.slice A n c] 127);have hc0:(w.alloc (.cells #[.int .u32 used,.slice A n c] 127)).cell? ⟨w.heap.size,0,none⟩=some (.int .u32 used):=(Qdv bk 0).trans rfl;have hc1:(w.alloc (.cells #[.int .u32 used,.slice A n c] 127)).cell? ⟨w.heap.size,1,none⟩=some (.slice A n c):=(Qdv bk 1).trans rfl;have HR:=QA hR;have HN:=QA hn;have hk:Calls Tryz.prog 111 #[.agg #[.int .u32 used,.slice A n c]] w fun e w'=>e=.returned (.int .i64 (if n=0 then 4 else if 1048576<n then 3 else if Qth l=false then 8 else if l.any (fun x=>decide (used≤x.f1))=true then 4 else 0))∧Below w.heap.size w w':=by
  by_cases h0:n=0
  ·rw[if_pos h0];have e0:((n:Int) == 0)=true:=beq_iff_eq.2 (by omega);have E0:=QA h0;clear h0 hn hR hl
   go_enter Tryz.func111,Tryz.ntmps111
   go_wp2;go_ret
   exact⟨rfl,hb1⟩
  rw[if_neg h0];have e0:((n:Int) == 0)=false:=beq_eq_false_iff_ne.2 (by omega)
  by_cases h1:1048576<n
  ·rw[if_pos h1];have e1:decide ((1048576:Int)<(n:Int))=true:=decide_eq_true (by omega);clear hn hR hl h0
   go_enter Tryz.func111,Tryz.ntmps111
   go_wp2;go_ret
   exact⟨rfl,hb1⟩
  rw[if_neg h1];have e1:decide ((1048576:Int)<(n:Int))=false:=decide_eq_false (by omega);have hris:=Qtl l hl;have HRI:=QA hris;have hC:Kd.C k117 (w.alloc (.cells #[.int .u32 used,.slice A n c] 127)) A n l:=by
   have h:=Kd.R_reads' hR;rw[hn];exact Kd.C_alloc h.2.2 _
  have hcap:n≤c:=(Kd.R_reads' hR).2.1;have hpos:0<l.length:=by omega
  obtain⟨g,cap,hf,hbg,hgl,cells,hgc⟩:=Kd.R_form hR hpos
  injection hf with hf1 hf2 hf3
  subst hf1;obtain⟨r,hr⟩:∃r,r=Qth l:=⟨_,rfl⟩;rw[← hr]at HRI ⊢;clear hr;have hcall:∀W,Kd.C k117 W (some ⟨g,0,none⟩) n l→Calls Tryz.prog 160 #[.slice (some ⟨g,0,none⟩) n c] W fun e w'=>e=.returned (.bool r)∧Below W.heap.size W w':=by
   intro W hCW;have hcw2:=hCW;rw[hn]at hCW ⊢;exact Qcs.calls _ _ c l r W hCW (by omega) HRI.out
  have HCL:=QA hcall;have HC:=QA hC;clear hris hcall hC hn hgc hf2 hf3
  cases r with
  | false =>
   rw[if_pos rfl];clear hR hl h0 h1
   go_enter Tryz.func111,Tryz.ntmps111
   go_wp2_with (go_at_call 160;refine(HCL.out _ HC.out).mono ?_;rintro e w1 ⟨rfl,hb2⟩)
   go_ret
   exact⟨rfl,Qcz hb1 hb1.size hb2⟩
  | true =>
   rw[if_neg (by decide)];obtain⟨q,hq⟩:∃q,q=l.any (fun x=>decide (used≤x.f1)):=⟨_,rfl⟩;rw[← hq];have eg:∀args w,(callFunc 159 args).run Tryz.prog w=.ok (.enter 159 args) w:=enters_of Tryz.func159 qq_7 rfl;have hany:∀W1:World,Below (w.alloc (.cells #[.int .u32 used,.slice (some ⟨g,0,none⟩) n c] 127)).heap.size (w.alloc (.cells #[.int .u32 used,.slice (some ⟨g,0,none⟩) n c] 127)) W1 →
     Calls Tryz.prog 161 #[.slice (some ⟨g,0,none⟩) n c,.func (.func 159) #[] #[.pointer (some ⟨w.heap.size,0,none⟩)]] W1 fun e w'=>e=.returned (.bool q)∧Below W1.heap.size W1 w':=by
    intro W1 hW1;have hRW:=Kd.R_below (Kd.R_below HR.out hb1) hW1;have hown:=RE.own hRW;have hH:=Qsz (b:=b) (g:=g) (cap:=c) (l:=l) (by rw[← HN.out];rw[← HN.out]at hown;exact hown);have hcon:=AnyQ.slices_ContainsFunc Tryz.hasEnt 2 Tryz.isAgg117 Tryz.sizeOf117 encE (fun _=>rfl) (fun x=>decide (used≤x.f1)) 159 #[.pointer (some ⟨w.heap.size,0,none⟩)] eg g 0 n c l W1
     (Qtn used _ w.heap.size W1 (Qei bk hW1)) qq_22 qq_22 (by have:=hW1.size;rw[World.size_alloc]at this;omega) (fun j hj i v hv=>by
      have h2:=Qss l j;have hjl:l[j]? = some l[j]!:=by rw[List.getElem?_eq_getElem hj,getElem!_pos l j hj]
      rw[hjl]at h2;generalize l[j]! = x at *;have key:(Qsp l)[2*j+i]? = some v:=by
       match i,hv with
       | 0,hv=>simp[encE]at hv;rw[← hv];exact h2.1
       | 1,hv=>simp[encE]at hv;rw[← hv];exact h2.2
       | i+2,hv=>simp[encE]at hv
      have hlt:j*2+i<l.length*2:=by
       have:=(List.getElem?_eq_some_iff.1 key).1;rw[Qsq]at this;omega
      rcases hown.2 with⟨hn',_⟩ |⟨g',cap',cur,he,hb',hh,hh1,hh2,hh3,hh4⟩
      ·cases hn'
      cases he
      have h5:(cur.toList.take (l.length*2))[j*2+i]? = (Qsp l)[j*2+i]?:=by rw[hh4]
      rw[List.getElem?_take_of_lt hlt]at h5;simp only[World.cell?,hh,Nat.zero_add];simp only[Option.isSome_none,Bool.false_eq_true,if_false];rw[← Array.getElem?_toList,h5,show j*2+i=2*j+i by omega,key])
    rw[List.take_of_length_le qq_22,← hq]at hcon;exact hcon
   have HA:=QA hany;clear hany hR hl h0 h1 hq eg
   cases q with
   | true =>
    rw[if_pos rfl]
    go_enter Tryz.func111,Tryz.ntmps111
    go_wp2_with (first
     |(go_at_call 160;refine(HCL.out _ HC.out).mono ?_;rintro e w1 ⟨rfl,hb2⟩;have hk2:=Qei bk hb2;have hd1:w1.cell? ⟨w.heap.size,1,none⟩=some (.slice (some ⟨g,0,none⟩) n c):=(Qdv hk2 1).trans rfl)
     |(go_at_call 161;refine(HA.out _ hb2).mono ?_;rintro e w2 ⟨rfl,hb3⟩))
    go_ret
    exact⟨rfl,Qcz (Qcz hb1 hb1.size hb2) (Nat.le_trans hb1.size hb2.size) hb3⟩
   | false =>
    rw[if_neg (by decide)]
    go_enter Tryz.func111,Tryz.ntmps111
    go_wp2_with (first
     |(go_at_call 160;refine(HCL.out _ HC.out).mono ?_;rintro e w1 ⟨rfl,hb2⟩;have hk2:=Qei bk hb2;have hd1:w1.cell? ⟨w.heap.size,1,none⟩=some (.slice (some ⟨g,0,none⟩) n c):=(Qdv hk2 1).trans rfl)
     |(go_at_call 161;refine(HA.out _ hb2).mono ?_;rintro e w2 ⟨rfl,hb3⟩))
    go_ret
    exact⟨rfl,Qcz (Qcz hb1 hb1.size hb2) (Nat.le_trans hb1.size hb2.size) hb3⟩
 refine hk.mono fun e w' ⟨he,hb⟩=>⟨?_,hb⟩
 rw[he];unfold Qtm;rw[HN.out]
def Qtp(used:Int)(l:List Ent):List Int:=Qoa ([4]++leb l.length 4++leb used 4++l.flatMap ent++(Qsl l).flatMap (fun x=>leb x 8))
theorem RU.tk{W W':World}{b g:Nat}{v:Value}{xs:List Int}{ys:List Int}{b':Nat}(h:RU W b v xs)(hI:IsBuf W b' g ys)(hT:Tk g W W'):RU W' b v xs:=by
 obtain⟨u,hu,_⟩:=hI;refine Kd.R_mono (Kd.R_step (Kd.R_bound h) (fun k hk _=>?_)) (fun _ _=>trivial);obtain⟨q,hq,cells,hc⟩:=hk.2.2.2;have hq':q=34:=by simpa [Kd.int,Kd.scalar]using hq
 subst hq';rw[hc];exact hT k cells _ hc (by decide) (Qdy hc hu (by decide))
theorem Qtq{W:World}{B:Nat}{u:Int}{v:Value}(h:W.heap[B]? = some (.cells #[.int .u32 u,v] 127 (0,0))):W.cell? ⟨B,0,none⟩=some (.int .u32 u)∧W.cell? ⟨B,1,none⟩=some v :=
 ⟨(Qdv h 0).trans rfl,(Qdv h 1).trans rfl⟩
theorem Qtr{l:List Ent}(hwf:∀x∈l,(0≤x.f0∧x.f0<18446744073709551616)∧0≤x.f1∧x.f1<4294967296):∀x∈Qsl l,0≤x∧x<18446744073709551616:=by
 intro x hx;unfold Qsl at hx;obtain⟨k,hk,rfl⟩:=List.mem_map.1 hx;have hk':=List.mem_range.1 hk;have hkl:k*16<l.length:=by unfold chN at hk';omega
 unfold Qsk;rw[rdE l (k*16) hkl];exact(hwf _ (List.getElem_mem hkl)).1
theorem Qts(l:List Ent):(Qsl l).length=chN l.length:=by simp[Qsl]
theorem Qtt(x y:Int)(l:List Ent):([]++[4]++leb x 4++leb y 4++l.flatMap ent).length=9+12*l.length:=by
 rw[List.length_append,List.length_append,List.length_append,List.length_append,Qjn,Qjn,Qlu];rfl
theorem Qtu(x y:Int)(l:List Ent):([]++[4]++leb x 4++leb y 4++l.flatMap ent++(Qsl l).flatMap (fun x=>leb x 8)).length=9+12*l.length+8*(Qsl l).length:=by
 rw[List.length_append,Qtt,Qlr]
theorem Qtv(b:Nat)(used:Int)(A:Option Addr)(n c:Nat)(l:List Ent)(w:World)(hn:n=l.length)(hR:RE w b (.slice A n c) l)(hchk:Qtm used l=0)(hu0:0≤used)(hu1:used<4294967296)
  (hwf:∀x∈l,(0≤x.f0∧x.f0<18446744073709551616)∧0≤x.f1∧x.f1<4294967296) :
  Calls Tryz.prog 67 #[.agg #[.int .u32 used,.slice A n c]] w fun e w'=>∃v,e=.returned (.tuple #[v,.int .i64 0])∧R8 w' w.heap.size v (Qtp used l)∧Below w.heap.size w w':=by
 have hu:=Tryz.underlying127;have p:n≠0:=by intro h;unfold Qtm at hchk;rw[if_pos (by omega)]at hchk;cases hchk
 have q:n≤1048576:=by
  apply Decidable.byContradiction;intro h;unfold Qtm at hchk;rw[if_neg (by omega),if_pos (by omega)]at hchk
  cases hchk
 have hpos:0<l.length:=by omega
 obtain⟨g,cap,hf,hbg,hgl,cells,hgc⟩:=Kd.R_form hR hpos
 injection hf with hf1 hf2 hf3
 subst hf1;have hcap:n≤c:=(Kd.R_reads' hR).2.1;have hC:Kd.C k117 w (some ⟨g,0,none⟩) n l:=by
  have h:=Kd.R_reads' hR;rw[hn];exact h.2.2
 have HN:=QA hn;have HR:=QA hR;have HCK:=QA (Qto b used (some ⟨g,0,none⟩) n c l w hn hR (by omega));have hck:Aside0 (Qtm used l=0):=⟨hchk⟩;have HC:=QA hC;have HWF:=QA hwf;have hbn:=Qej w (.cells #[.int .u32 used,.slice (some ⟨g,0,none⟩) n c] 127);have hba:Below w.heap.size w (w.alloc (.cells #[.int .u32 used,.slice (some ⟨g,0,none⟩) n c] 127)):=Qcw (Below.refl _ _) _;have HRa:=QA (Kd.R_alloc hR (.cells #[.int .u32 used,.slice (some ⟨g,0,none⟩) n c] 127));have hmod:(n:Int)%4294967296=(n:Int):=by omega
 have HM:=QA hmod;obtain⟨c0,c1⟩:=Qtq hbn;clear hn hR hchk hC hwf hgc hf2 hf3 hmod hpos
 go_enter Tryz.func67,Tryz.ntmps67
 go_wp2_with (first
  |(go_at_call 111;refine(Qto b used (some ⟨g,0,none⟩) n c l _ HN.out HRa.out qq_22).mono ?_;rw[hck.out];rintro ee w1 ⟨rfl,hb1⟩;have hk1:=Qei hbn hb1;have hw1:=QA (Qcz hba hba.size hb1);have hs1':=QA (show w.heap.size<w1.heap.size from Qdu hk1);have HI1:=QA (IsBuf.new w1 w.heap.size);have hk1':=Qef hk1 (.cells #[.slice none 0 0] 167);clear hk1 hb1 hbn hba c0 c1;obtain⟨c0,c1⟩:=Qtq hk1'))
 obtain⟨W,hW⟩:∃W,W=w1.alloc (.cells #[.slice none 0 0] 167):=⟨_,rfl⟩;have hbW:Below w1.heap.size w1 W:=by rw[hW];exact Qcw (Below.refl _ _) _
 rw[← hW]at hk1' c0 c1 HI1 ⊢;clear hW;have hkd:=Qei hk1' (Qcx (Below.refl W.heap.size W));have hId:=HI1.out.kept (Qcx (Below.refl W.heap.size W));obtain⟨j0,j1⟩:=Qtq hkd;have hg:=Nat.le_of_lt hs1'.out;have hzd:w.heap.size≤W.drew.heap.size:=Nat.le_trans hg hbW.size;have hne:=Nat.ne_of_lt hs1'.out;have hnn0:(0:Int)≤(n:Int):=by omega
 have hnn1:(n:Int)≤1048576:=by omega
 have j:(0:Int)≤(n:Int)%4294967296:=by omega
 have k:(n:Int)%4294967296<4294967296:=by omega
 go_region_held3 (fun w'=>w'.cell? ⟨w.heap.size,0,none⟩=some (.int .u32 used)∧w'.cell? ⟨w.heap.size,1,none⟩=some (.slice (some ⟨g,0,none⟩) n c)) (first|exact⟨j0,j1⟩|exact⟨i0,i1⟩|exact⟨i2,i3⟩|exact⟨i4,i5⟩) (first
  |(go_at_call 94;refine(Qjt w.heap.size w1.heap.size 4 [] W.drew (by decide) (by decide) hg hzd hId (by simp)).mono ?_;rintro ee w2 ⟨rfl,hI2,hb2⟩;have hk2:=hb2.2 _ _ _ hkd (by decide) hne;obtain⟨i0,i1⟩:=Qtq hk2)
  |(go_at_call_of 112 (Value.int .u32 used);refine(Qjv w.heap.size w1.heap.size used _ w3 hu0 hu1 hg (Nat.le_trans (Nat.le_trans hzd hb2.size) hb3.size) hI3 (by simp[Qjn])).mono ?_;rintro ee w4 ⟨rfl,hI4,hb4⟩;have hk4:=hb4.2 _ _ _ hk3 (by decide) hne;obtain⟨i4,i5⟩:=Qtq hk4)
  |(go_at_call 112;refine(Qjv w.heap.size w1.heap.size ((n:Int)%4294967296) ([]++[4]) w2 j k hg (Nat.le_trans hzd hb2.size) hI2 (by simp)).mono ?_;rintro ee w3 ⟨rfl,hI3,hb3⟩;have hk3:=hb3.2 _ _ _ hk2 (by decide) hne;obtain⟨i2,i3⟩:=Qtq hk3))
 have hz4:w.heap.size≤w4.heap.size:=Nat.le_trans (Nat.le_trans (Nat.le_trans hzd hb2.size) hb3.size) hb4.size;have a:=QA (show Below w.heap.size w w4 from((((hw1.out.trans (Qjp hbW hg)).trans (Qjp (Qcx (Below.refl W.heap.size W)) (Nat.le_trans hg hbW.size))).trans hb2.1).trans hb3.1).trans hb4.1);clear i0 i1 i2 i3 j0 j1 c0 c1 hk2 hk3 hb2 hb3 hb4 hI2 hI3 hkd hId;have hlt:(Qsl l).length≤65536:=by rw[Qts];unfold chN;have:=HN.out;omega
 have hCw:∀W',Below w.heap.size w W'→Kd.C k117 W' (some ⟨g,0,none⟩) l.length l:=by
  intro W' hb;have:=Kd.C_below HC.out hb;rw[HN.out]at this;exact this
 have HCW:=QA hCw;clear hCw;have htab:∀(xs:List Int) (W':World),xs.length≤100→Below w.heap.size w W'→IsBuf W' w.heap.size w1.heap.size xs→w.heap.size≤W'.heap.size →
   Calls Tryz.prog 113 #[.pointer (some ⟨w1.heap.size,0,none⟩),.slice (some ⟨g,0,none⟩) n c] W' fun e w'=>(∃v,e=.returned v)∧IsBuf w' w.heap.size w1.heap.size (xs++l.flatMap ent)∧Bw w.heap.size w1.heap.size W' w':=by
  intro xs W' hxs hb hI hz;rw[HN.out];exact Qlv w.heap.size w1.heap.size (some ⟨g,0,none⟩) c l xs W' (fun W2 h2=>HCW.out W2 (hb.trans h2.1)) HWF.out hg hz hI qq_22
 have HT:=QA htab;clear htab
 go_wp2_with (first
  |(go_at_call 113;refine(HT.out _ w4 (by simp[Qjn]) a.out hI4 hz4).mono ?_;rintro ee w5 ⟨⟨_,rfl⟩,hI5,hb5⟩;have hk5:=hb5.2 _ _ _ hk4 (by decide) hne;clear i4 i5;obtain⟨i6,i7⟩:=Qtq hk5;have hz5:w.heap.size≤w5.heap.size:=Nat.le_trans hz4 hb5.size;have d:=QA (a.out.trans hb5.1))
  |(go_at_call 115;refine(Qso ⟨g,0,none⟩ c n l w5 HN.out (by have:=HCW.out w5 d.out;rw[← HN.out]at this;exact this) hcap (by omega)).mono ?_;rintro ee w6 ⟨⟨v6,rfl,hR6⟩,hb6⟩;obtain⟨A6,c6,rfl⟩:=Kd.R_slice hR6;have hI6:=hI5.kept hb6;have m:=QA (Qcz d.out hz5 hb6);have hz6:w.heap.size≤w6.heap.size:=Nat.le_trans hz5 hb6.size)
  |(go_at_call 114;refine(Qls w.heap.size w1.heap.size A6 c6 (Qsl l) _ w6 (fun W2 h2=>(Kd.R_reads' (RU.tk hR6 hI6 h2.2)).2.2) (Qtr HWF.out) hg hz6 hI6 (by rw[Qtt];have:=HN.out;omega)).mono ?_;rintro ee w7 ⟨⟨_,rfl⟩,hI7,hb7⟩;have hz7:w.heap.size≤w7.heap.size:=Nat.le_trans hz6 hb7.size;have o:=QA (m.out.trans hb7.1))
  |(go_at_call 97;refine(Qka w.heap.size w1.heap.size _ w7 hI7 (by rw[Qtu];have:=HN.out;omega)).mono ?_;rintro ee w8 ⟨v8,rfl,hR8,hb8⟩;obtain⟨A8,n8,c8,rfl,r,hlc8,hC8⟩:=R8.reads hR8)
  |(go_at_call 96;refine(Qof A8 n8 c8 _ w8 hC8 (by rw[Qtu];have:=HN.out;omega)).mono ?_;rintro ee w9 ⟨v9,rfl,hR9,hb9⟩))
 refine bodyPost_ret (results_tmp2 rfl _ _ _) rfl ?_;have hz8:w.heap.size≤w8.heap.size:=Nat.le_trans hz7 hb8.size;refine⟨v9,rfl,?_,(o.out.trans (Qjp hb8 hz7)).trans (Qjp hb9 hz8)⟩;have hL:=R8.low hR9 hz8;unfold Qtp;rw[HM.out,HN.out]at hL;exact hL
theorem bd_Seal(b g:Nat)(R:Room5)(fr:List Int)(tb:List S117)(sz:Nat)(w:World)(hI:IsBd w b g R fr tb)(hbw:b≤w.heap.size)(htb:tb≠[])(hnd:tb.Nodup)(htl:tb.length≤1099511627776)
  (hwf:∀x∈tb,(0≤x.f0∧x.f0<18446744073709551616)∧0≤x.f1∧x.f1<4294967296) (hchk:Qtm ((fr.length:Int)%4294967296) (Qsu tb)=0)
  (hsz:Qao.f R.1 R.2.1=some (sz:Int)) (hle:fr.length+(Qtp ((fr.length:Int)%4294967296) (Qsu tb)).length≤sz) (hs2:sz≤70368744177664) :
  Calls Tryz.prog 28 #[.pointer (some ⟨g,0,none⟩)] w fun e w'=>∃v:Value,e=.returned (.tuple #[v,.int .i64 0])∧R8 w' w.heap.size v (fr++Qtp ((fr.length:Int)%4294967296) (Qsu tb)++List.replicate (sz-(fr++Qtp ((fr.length:Int)%4294967296) (Qsu tb)).length) 255)∧Below w.heap.size w w':=by
 have hu:=Tryz.underlying127;have hu3:=Tryz.underlying108;obtain⟨F,hF⟩:∃F,F=Qtp ((fr.length:Int)%4294967296) (Qsu tb):=⟨_,rfl⟩;rw[← hF]at hle ⊢;have HF:=QA hF;have HI:=QA hI;obtain⟨fv,tv,hv,hR,hT⟩:=hI;obtain⟨AT,cT,rfl⟩:=Kd.R_slice hT;obtain⟨nT,hnT⟩:∃nT,nT=tb.length:=⟨_,rfl⟩;rw[← hnT]at hv hT;obtain⟨A,n,c,rfl,hn,hlc,hC⟩:=R8.reads hR;have hv':Qsd w g R (.slice A n c) (.slice AT nT cT):=hv;have hpos:0<nT:=by rw[hnT];exact List.length_pos_iff.2 htb
 have hb0:((nT:Int) == 0)=false:=beq_eq_false_iff_ne.2 (by omega);have hvd:Qsd w.drew g R (.slice A n c) (.slice AT nT cT):=hv';obtain⟨g0,g1,g2,g3,g4,g5,g6⟩:=Qse hv';obtain⟨d0,d1,d2,d3,d4,d5,d6⟩:=Qse hvd;have HNT:=QA hnT;have HT:=QA hT;have HV:=QA hvd;have HND:=QA hnd;have HWF:=QA hwf;have HCK:=QA hchk;have HSZ:=QA hsz;have j:(0:Int)≤(n:Int)%4294967296:=by omega
 have k:(n:Int)%4294967296<4294967296:=by omega
 have hTd:RE w.drew b (.slice AT nT cT) tb:=Kd.R_drew hT;have HTD:=QA hTd;clear hF hR hT hv hC hv' hvd hnT hnd hwf hchk hsz hTd htb
 go_enter Tryz.func28,Tryz.ntmps28
 go_wp2_with fail
 go_region_held3 (fun w'=>w'.cell? ⟨g,5,none⟩=some (.slice A n c)∧w'.cell? ⟨g,6,none⟩=some (.slice AT nT cT)) (first|exact⟨d5,d6⟩|exact⟨i5,i6⟩|exact⟨k5,k6⟩) (first
  |(go_at_call 68;refine(Qtg b _ tb w.drew HTD.out HND.out htl).mono ?_;rintro e w1 ⟨v1,rfl,hR1,hb1⟩;have hv1:Qsd w1 g R (.slice A n c) (.slice AT nT cT):=Qei (w:=w.drew) HV.out hb1;obtain⟨i0,i1,i2,i3,i4,i5,i6⟩:=Qse hv1;obtain⟨A1,c1,rfl⟩:=Kd.R_slice hR1)
  |(go_at_call 67;refine(Qtv w.drew.heap.size ((n:Int)%4294967296) A1 _ c1 (Qsu tb) w1 rfl hR1 (by rw[hn.out];exact HCK.out) j k (fun x hx=>HWF.out x ((Qte tb).mem_iff.1 hx))).mono ?_;rintro e w2 ⟨v2,rfl,hR2,hb2⟩;have hv2:Qsd w2 g R (.slice A n c) (.slice AT nT cT):=Qei hv1 hb2;obtain⟨k0,k1,k2,k3,k4,k5,k6⟩:=Qse hv2;obtain⟨A2,n2,c2,rfl,l,hl2,hC2⟩:=R8.reads hR2))
 have a:=QA (show Below w.heap.size w w2 from((Qcx (Below.refl _ _)).trans hb1).trans (Qjp hb2 hb1.size));have HI2:=QA (HI.out.kept a.out);have hR2':R8 w2 w1.heap.size (.slice A2 n2 c2) F:=by rw[HF.out,← hn.out];exact hR2
 have hC2':Kd.C (Kd.int .u8) w2 A2 n2 F:=by
  have h:=Kd.R_reads' hR2';rw[h.1];exact h.2.2
 have d:n2=F.length:=(Kd.R_reads' hR2').1;have m:=QA hC2';have HN2:=QA d;have hz2:b≤w2.heap.size:=Nat.le_trans hbw a.out.size;clear hR1 hb1 hR2 hb2 hv1 hv2 l hC2 i0 i1 i2 i3 i4 i5 i6 d0 d1 d2 d3 d4 d5 d6 g0 g1 g2 g3 g4 g5 g6 hR2' hC2' d
 go_wp2_with (first
  |(go_at_call 29;refine(Qsa b g R fr tb w2 HI2.out (by omega)).mono ?_;rintro e w3 ⟨v3,rfl,hR3,hb3⟩;have o:=QA (Kd.C_below m.out hb3))
  |(at_builtin;go_loud (refine Kd.R_append_rows (Kd.int .u8) (Rr:=fun x cs=>cs=[.int .u8 x]) (w0:=w3) w2.heap.size rfl (.tmp 33) (.tmp 34) 52 5 (.int .u8 0) 1 rfl Tryz.underlying52 Qiq rfl (by decide) (by omega) v3 fr F A2 n2 c2 (fun _=>True) (fun _=>False) rfl rfl hR3 o.out (fun _ _ h=>h) (fun _ hk=>hk.elim) (fun _ _=>trivial) (Below.refl _ _) hb3.size ?bL ?_;(case bL=>have:=HN2.out;omega);intro v4 w4 hR4 hb4 p hat4))
  |(go_at_call 69;go_loud (refine(Qsb b w2.heap.size g R fr tb (fr++F) v4 sz w4 (HI2.out.kept (hb3.trans hb4)) hR4 (Nat.le_trans hb3.size hb4.size) HSZ.out (by rw[List.length_append];exact hle) hs2).mono ?_;rintro e w5 ⟨v5,rfl,hR5,hb5⟩)))
 refine bodyPost_ret (results_tmp2 rfl _ _ _) rfl ?_;refine⟨v5,rfl,?_,?_⟩
 ·exact R8.low hR5 a.out.size
 ·exact a.out.trans (Qjp ((hb3.trans hb4).trans hb5) a.out.size)
abbrev Rec:=S39
abbrev Bd:=Room5 × List Int × List Ent
def newB(e s n:Int):Option Bd :=
 (Qcf.f e s n).bind fun q=>(Qby.f e s n).bind fun p =>
  if q.2.2.2.2.2=0∧p.2=0∧q.1=e∧q.2.1=s∧q.2.2.1=n then some ((e,s,n,q.2.2.2.1,q.2.2.2.2.1),p.1,[])else none
def addB (B:Bd) (r:Rec):Option Bd :=
 if chk r.f0 r.f2 r.f3=0 then
  (Qbz.f r.f0 r.f1 r.f2 r.f3).bind fun p=>(Qck.f B.1.1 B.1.2.1 p.1.length).bind fun tl =>
   (Qcj.f B.1.1 B.1.2.1 B.1.2.2.1 B.1.2.2.2.1 B.1.2.2.2.2 p.1.length).bind fun q =>
    if p.2=0∧tl=false∧q.2.2.2.2.2=0∧B.2.1.length+p.1.length≤70368744177664∧B.2.2.length≤1099511627776 then
     some ((q.1,q.2.1,q.2.2.1,q.2.2.2.1,q.2.2.2.2.1),B.2.1++p.1,B.2.2++[⟨Qmn 0 (bytesOf r.f2),(B.2.1.length:Int)%4294967296⟩])
    else none
 else none
def wfE(x:Ent):Prop:=(0≤x.f0∧x.f0<18446744073709551616)∧0≤x.f1∧x.f1<4294967296
instance (x:Ent):Decidable (wfE x):=by unfold wfE;exact inferInstance
def Qtw(B:Bd):Int:=(B.2.1.length:Int)%4294967296
def sealB(B:Bd):Option (List Int) :=
 (Qao.f B.1.1 B.1.2.1).bind fun sz =>
  if B.2.2.length≠0∧B.2.2.length≤1099511627776∧(∀x∈B.2.2,wfE x)∧Qtm (Qtw B) (Qsu B.2.2)=0∧((B.2.1.length+(Qtp (Qtw B) (Qsu B.2.2)).length:Nat):Int)≤sz∧sz≤70368744177664 then
   some (B.2.1++Qtp (Qtw B) (Qsu B.2.2)++List.replicate (sz.toNat-(B.2.1++Qtp (Qtw B) (Qsu B.2.2)).length) 255)
  else none
def openB(B:Bd):Option (List Int) :=
 (Qao.f B.1.1 B.1.2.1).bind fun sz=>if(B.2.1.length:Int)≤sz∧sz≤70368744177664 then some (B.2.1++List.replicate (sz.toNat-B.2.1.length) 255)else none
abbrev IsB(W:World)(b g:Nat)(B:Bd):Prop:=IsBd W b g B.1 B.2.1 B.2.2
theorem Qtx(e s n:Int)(B:Bd)(w:World)(h:newB e s n=some B) :
  Calls Tryz.prog 18 #[.agg #[.int .u8 e,.int .u32 s],.int .u32 n] w fun ee w'=>∃g,ee=.returned (.tuple #[.pointer (some ⟨g,0,none⟩),.int .i64 0])∧IsB w' w.heap.size g B∧Below w.heap.size w w'∧w.heap.size≤g:=by
 unfold newB at h;obtain⟨q,hq,h⟩:=Option.bind_eq_some_iff.mp h;obtain⟨p,hp,h⟩:=Option.bind_eq_some_iff.mp h;obtain⟨q1,q2,q3,q4,q5,q6⟩:=q;obtain⟨p1,p2⟩:=p;split at h
 ·rename_i hc;obtain⟨h1,h2,h3,h4,h5⟩:=hc;dsimp only at h1 h2 h3 h4 h5;subst h1 h2 h3 h4 h5
  cases h
  exact Qrz q1 q2 q3 q4 q5 p1 w hq hp
 ·cases h
theorem add_ofT(b g:Nat)(B B':Bd)(r:Rec)(w:World)(hI:IsB w b g B)(hbg:b≤g)(hbw:b≤w.heap.size)(h:addB B r=some B') :
  Calls Tryz.prog 21 #[.pointer (some ⟨g,0,none⟩),.agg #[.bool r.f0,.int .u64 r.f1,.string r.f2,.string r.f3]] w fun e w'=>e=.returned (.tuple #[.int .u32 ((B.2.1.length:Int)%4294967296),.int .i64 0])∧IsB w' b g B'∧Below b w w'∧Tb g w w':=by
 unfold addB at h;split at h
 ·rename_i hchk;obtain⟨p,hp,h⟩:=Option.bind_eq_some_iff.mp h;obtain⟨tl,htl,h⟩:=Option.bind_eq_some_iff.mp h;obtain⟨q,hq,h⟩:=Option.bind_eq_some_iff.mp h;obtain⟨q1,q2,q3,q4,q5,q6⟩:=q;obtain⟨p1,p2⟩:=p;split at h
  ·rename_i hc;obtain⟨h1,h2,h3,h4,h5⟩:=hc;dsimp only at h1 h2 h3 h4 h5 hq htl;subst h1 h2 h3
   cases h
   have hk:=(Qnu hchk).1;exact bd_Add b g B.1 (q1,q2,q3,q4,q5) B.2.1 p1 B.2.2 r.f0 r.f1 r.f2 r.f3 w hI hbg hbw hchk hp htl hq h4 (by omega) h5
  ·cases h
 ·cases h
theorem Qty(b g:Nat)(B B':Bd)(r:Rec)(w:World)(hI:IsB w b g B)(hbg:b≤g)(hbw:b≤w.heap.size)(h:addB B r=some B') :
  Calls Tryz.prog 21 #[.pointer (some ⟨g,0,none⟩),.agg #[.bool r.f0,.int .u64 r.f1,.string r.f2,.string r.f3]] w fun e w'=>e=.returned (.tuple #[.int .u32 ((B.2.1.length:Int)%4294967296),.int .i64 0])∧IsB w' b g B'∧Below b w w' :=
 (add_ofT b g B B' r w hI hbg hbw h).mono fun _ _ ⟨h1,h2,h3,_⟩=>⟨h1,h2,h3⟩
theorem Qtz:∀ {l:List Ent},Qth l=true→l.Pairwise (fun x y=>cfE x y<0)
 | [],_=>List.Pairwise.nil
 | [a],_=>by simp
 | a :: b :: t,h=>by
  simp only[Qth,Bool.and_eq_true]at h;have ih:=Qtz h.2;refine List.Pairwise.cons (fun x hx=>?_) ih;have hab:cfE a b<0:=by simpa [ltE]using h.1
  rcases List.mem_cons.1 hx with rfl|hx
  ·exact hab
  ·have hbx:=List.rel_of_pairwise_cons ih hx;have t1:ltOf cfE a b=true:=by simpa [Go.Proofs.ltOf]using hab
   have t2:ltOf cfE b x=true:=by simpa [Go.Proofs.ltOf]using hbx
   have:=swoE.trans a b x t1 t2
   simpa [Go.Proofs.ltOf]using this
theorem cfE_irr(x:Ent):¬cfE x x<0:=by
 have:=swoE.irrefl x
 simpa [Go.Proofs.ltOf]using this
theorem Qua{u:Int}{l:List Ent}(h:Qtm u (Qsu l)=0):l.Nodup:=by
 have hr:Qth (Qsu l)=true:=by
  unfold Qtm at h;split at h
  ·cases h
  split at h
  ·cases h
  split at h
  ·cases h
  ·rename_i h1;simpa using h1
 have hp:=Qtz hr;have:(Qsu l).Nodup:=hp.imp (fun {x y} hxy e=>by subst e;exact cfE_irr x hxy);exact(Qte l).nodup_iff.1 this
theorem Qub(b g:Nat)(B:Bd)(o:List Int)(w:World)(hI:IsB w b g B)(hbw:b≤w.heap.size)(h:sealB B=some o) :
  Calls Tryz.prog 28 #[.pointer (some ⟨g,0,none⟩)] w fun e w'=>∃v:Value,e=.returned (.tuple #[v,.int .i64 0])∧R8 w' w.heap.size v o∧Below w.heap.size w w':=by
 unfold sealB at h;obtain⟨sz,hsz,h⟩:=Option.bind_eq_some_iff.mp h;split at h
 ·rename_i hc;obtain⟨h1,h2,h3,h4,h5,h6⟩:=hc
  cases h
  obtain⟨z,rfl⟩:=Int.eq_ofNat_of_zero_le (show 0≤sz by omega);rw[Int.toNat_natCast];exact bd_Seal b g B.1 B.2.1 B.2.2 z w hI hbw (fun e=>h1 (by rw[e];rfl)) (Qua h4) h2 h3 h4 hsz (by unfold Qtw at h5;omega) (by omega)
 ·cases h
theorem Quc(b g:Nat)(B:Bd)(o:List Int)(w:World)(hI:IsB w b g B)(hbw:b≤w.heap.size)(h:openB B=some o) :
  Calls Tryz.prog 30 #[.pointer (some ⟨g,0,none⟩)] w fun e w'=>∃v:Value,e=.returned v∧R8 w' w.heap.size v o∧Below w.heap.size w w':=by
 unfold openB at h;obtain⟨sz,hsz,h⟩:=Option.bind_eq_some_iff.mp h;split at h
 ·rename_i hc
  cases h
  obtain⟨z,rfl⟩:=Int.eq_ofNat_of_zero_le (show 0≤sz by omega);rw[Int.toNat_natCast];exact Qsc b g B.1 B.2.1 B.2.2 z w hI hsz (by omega) (by omega)
 ·cases h
def lim:Nat:=70368744177664
def encG (e s:Int) (into:List Int):Nat→List Rec→List Int→Option Bd→Option (List Int)
 | _,[],out,none=>some out
 | _,[],out,some B=>(openB B).bind fun o=>if out.length+o.length≤lim then some (out++o)else none
 | i,r :: rs,out,ob =>
  if i<into.length then
   match ob with
   | none=>if i=0 then(newB e s (rd into (i:Int))).bind fun B=>(addB B r).bind fun B'=>encG e s into (i+1) rs out (some B')else none
   | some B =>
    if i=0 then none
    else if rd into (i:Int)=rd into ((i:Int)-1)then(addB B r).bind fun B'=>encG e s into (i+1) rs out (some B')
    else(sealB B).bind fun o=>if out.length+o.length≤lim then(newB e s (rd into (i:Int))).bind fun B1=>(addB B1 r).bind fun B'=>encG e s into (i+1) rs (out++o) (some B')else none
  else none
def Qcd.f(k:Nat)(a0_0 a0_1:Int)(l1:List Rec):Option (List Int × Int) :=
 (Qce.f k a0_0 a0_1 l1).bind fun p=>if p.2.2=0 then(if l1.length≤1099511627776 then(encG a0_0 a0_1 p.1 0 l1 [] none).bind fun o=>some (o,0)else none)else some ([],p.2.2)
def OpenAt(W:World)(b:Nat)(vo pb:Value)(ob:Option Bd)(i:Nat):Prop :=
 match ob with
 | none=>pb=.pointer none∧i=0
 | some B=>∃g b2,pb=.pointer (some ⟨g,0,none⟩)∧b≤b2∧b2≤g∧b2≤W.heap.size∧(∀k,vo.ownBlock=some k→k<b2)∧IsB W b2 g B∧i≠0
theorem Qwr{W W':World}{b b2:Nat}{v:Value}{xs:List Int}(h:R8 W b v xs)(hb:Below b2 W W')(hlt:∀k,v.ownBlock=some k→k<b2):R8 W' b v xs:=by
 refine Kd.R_mono (Kd.R_step (ok:=fun k=>v.ownBlock=some k) ?_ (fun k hk _=>hb.block k (hlt k hk))) (fun _ _=>trivial);exact Kd.R_mono (Kd.R_tight rfl h) (fun k hk=>hk.symm)
theorem Qws{l:List Rec}{i:Nat}(h:i<l.length):l.drop i=Qiu l (i:Int) :: l.drop (i+1):=by
 rw[List.drop_eq_getElem_cons h];simp[Qiu,List.getElem?_eq_getElem h]
theorem enc_of(k:Nat)(e s:Int)(A1:Option Addr)(c1 n1:Nat)(l1:List Rec)(into sizes o:List Int)(w:World)(p:n1=l1.length)(hr1:Kd.C k39 w A1 n1 l1)(hc1:n1≤c1)(hl1:l1.length≤1099511627776)
  (hp:Qce.f k e s l1=some (into,sizes,0)) (h:encG e s into 0 l1 [] none=some o) :
  Calls Tryz.prog 33 #[.agg #[.int .u8 e,.int .u32 s],.slice A1 n1 c1] w fun ee w'=>∃v,ee=.returned (.tuple #[v,.int .i64 0])∧R8 w' w.heap.size v o∧Below w.heap.size w w':=by
 have hu:=Tryz.underlying27;have hu2:=Tryz.underlying39;have HN:=QA p;have HC:=QA hr1;have HP:=QA hp;have HE:=QA h;have hl1':n1≤1099511627776:=by omega
 clear p hr1 hp h hl1;have hba:Below w.heap.size w (w.alloc (.cells #[.int .u8 e,.int .u32 s] 27)):=Qcw (Below.refl _ _) _;have hbn:=Qej w (.cells #[.int .u8 e,.int .u32 s] 27);have HCa:=QA (Kd.C_alloc HC.out (.cells #[.int .u8 e,.int .u32 s] 27));have hplan:Calls Tryz.prog 73 #[.agg #[.int .u8 e,.int .u32 s],.slice A1 n1 c1] (w.alloc (.cells #[.int .u8 e,.int .u32 s] 27)) fun ee w'=>∃q t:Value,ee=.returned (.tuple #[q,t,.int .i64 0])∧Kd.R (Kd.int .u32) 22 w' (w.alloc (.cells #[.int .u8 e,.int .u32 s] 27)).heap.size (fun _=>True) q into∧Kd.R (Kd.int .i64) 3 w' (w.alloc (.cells #[.int .u8 e,.int .u32 s] 27)).heap.size (fun _=>True) t sizes∧Below (w.alloc (.cells #[.int .u8 e,.int .u32 s] 27)).heap.size (w.alloc (.cells #[.int .u8 e,.int .u32 s] 27)) w':=by
  have hC:=HCa.out;rw[HN.out]at hC ⊢;exact Qce.calls k e s A1 c1 l1 into sizes 0 _ hC qq_22 HP.out
 have HPL:=QA hplan;clear hplan;obtain⟨c0,D⟩:=box2 hbn
 go_enter Tryz.func33,Tryz.ntmps33
 go_wp2_with (go_at_call 73;refine HPL.out.mono ?_;rintro ee w2 ⟨vi,vz,rfl,hRi,hRz,hb2⟩;obtain⟨Ai,ci,rfl⟩:=Kd.R_slice hRi)
 have hk2:=Qei hbn hb2;have HBW:=QA (Qcz hba hba.size hb2);have hlt2:w.heap.size<w2.heap.size:=Qdu hk2;obtain⟨b,hbdef⟩:∃b,b=w2.heap.size:=⟨_,rfl⟩;have hCi:Kd.C (Kd.int .u32) w2 Ai into.length into:=(Kd.R_reads' hRi).2.2;have hcell:∀ {W:World} {a:Addr} {v:Value},Below b w2 W→w2.cell? a=some v→W.cell? a=some v:=fun {W a v} hb h=>(hb.cell (by rw[hbdef];exact World.block_lt_of_cell? w2 _ h)).trans h
 have HCI:=QA hCi;have HK2:=QA hk2;have HBD:=QA hbdef;have hC2:Kd.C k39 w2 A1 n1 l1:=Kd.C_below HCa.out hb2;have E:=QA hC2;obtain⟨ni,hni⟩:∃ni,ni=into.length:=⟨_,rfl⟩;rw[← hni];have HNI:=QA hni;clear hbn hb2 hk2 hRi hRz hCi c0 D hba hbdef hC2 hni
 go_loopw [9,10,27] (fun v9 G I wr=>∃(vo pb:Value) (i:Nat) (iv:Int) (out:List Int) (ob:Option Bd),vo=v9∧pb=G∧I=.int .i64 iv∧Aside0 (iv=(i:Int))∧i≤n1∧Aside0 (encG e s into i (l1.drop i) out ob=some o)∧Aside0 (R8 wr b vo out)∧Aside0 (OpenAt wr b vo pb ob i)∧Aside0 (Below b w2 wr)) (fun _ _ i _=>((n1:Int)-intOf i).toNat)
 case atStart=>exact⟨_,_,0,0,[],none,rfl,rfl,rfl,⟨rfl⟩,Nat.zero_le _,HE,⟨Kd.R_nil _ _ _ _ _⟩,⟨⟨rfl,rfl⟩⟩,⟨Below.refl _ _⟩⟩
 case round =>
  obtain⟨vo,pb,i,iv,out,ob,rfl,rfl,rfl,HI,hin,HG,HO,HOP,HB⟩:=hrel
  by_cases hlt:i<n1
  ·have h0:0≤iv:=by have:=HI.out;omega
   have h1:iv<(n1:Int):=by have:=HI.out;omega
   have hb1:decide (iv<(n1:Int))=true:=decide_eq_true h1;obtain⟨ad,rfl,x0,x1,x2,x3⟩:=Qiv E.out iv h0 h1;replace x0:=hcell HB.out x0;replace x1:=hcell HB.out x1;replace x2:=hcell HB.out x2;replace x3:=hcell HB.out x3;obtain⟨r,hr⟩:∃r,r=Qiu l1 iv:=⟨_,rfl⟩;rw[← hr]at x0 x1 x2 x3;have hg:encG e s into i (r :: l1.drop (i+1)) out ob=some o:=by
    have h:=HG.out;rw[Qws qq_22,← HI.out,← hr]at h;exact h
   clear hr;have hi2:i<ni:=by
    rw[HNI.out];unfold encG at hg;split at hg
    ·assumption
    ·cases hg
   by_cases hz:i=0
   ·have hob:ob=none∧pb=.pointer none:=by
     have h:=HOP.out
     cases ob with
     | none=>exact⟨rfl,h.1⟩
     | some B=>obtain⟨_,_,_,_,_,_,_,_,hn⟩:=h;exact absurd hz hn
    obtain⟨rfl,rfl⟩:=hob;have hz0:(iv == 0)=true:=beq_iff_eq.2 (by have:=HI.out;omega);have hiv:iv=((0:Nat):Int):=by have:=HI.out;omega
    unfold encG at hg;rw[if_pos (by rw[← HNI.out];exact hi2)]at hg;dsimp only at hg;rw[if_pos hz]at hg;obtain⟨B,hB1,hg⟩:=Option.bind_eq_some_iff.mp hg;obtain⟨B',hB2',hg⟩:=Option.bind_eq_some_iff.mp hg;rw[← HI.out]at hB1;obtain⟨adi,rfl,y0⟩:=Kd.at_int HCI.out iv h0 (by have:=HNI.out;have:=HI.out;omega);have hci1:iv<(ni:Int):=by have:=HI.out;omega
    obtain⟨k0,k1⟩:=box2 HK2.out;have hb':Below wr.heap.size wr (wr.alloc (.cells #[.bool r.f0,.int .u64 r.f1,.string r.f2,.string r.f3] 39)):=Qcw (Below.refl _ _) _;have hbz:b≤wr.heap.size:=by rw[HBD.out];exact HB.out.size
    have hB3:=HB.out.trans (Qjp hb' hbz);have y1:=hcell hB3 y0;have k2:=hcell hB3 k0;have k3:=hcell hB3 k1;have bk:=Qej wr (.cells #[.bool r.f0,.int .u64 r.f1,.string r.f2,.string r.f3] 39);have HG':=QA hg;have j:=QA hB1;have l:=QA hB2';have HZ:=QA hz;have HIV:=QA hiv;clear hg hB1 hB2' hz hiv y0 k0 k1;go_wp2
    go_quiet (fail)
    obtain⟨W3,hW3⟩:∃W3,W3=(wr.alloc (.cells #[.bool r.f0,.int .u64 r.f1,.string r.f2,.string r.f3] 39)).drewN nq:=⟨_,rfl⟩;have hbq:Below (wr.alloc (.cells #[.bool r.f0,.int .u64 r.f1,.string r.f2,.string r.f3] 39)).heap.size (wr.alloc (.cells #[.bool r.f0,.int .u64 r.f1,.string r.f2,.string r.f3] 39)) W3:=by rw[hW3];exact Qcy (Below.refl _ _) _
    have hB4:Below wr.heap.size wr W3:=Qcz hb' hb'.size hbq;have bk4:=Qei bk hbq;have z1:=Qda hbq y1;have z2:=Qda hbq k2;have z3:=Qda hbq k3;rw[← hW3];clear hW3 y1 k2 k3 bk hb' hbq hB3;go_wp2
    go_region_held3 (fun w'=>w'.cell? ⟨w.heap.size,0,none⟩=some (.int .u8 e)∧w'.cell? ⟨w.heap.size,1,none⟩=some (.int .u32 s)∧w'.cell? (adi.add iv.toNat)=some (.int .u32 (YtnnofopfbeklbaaGreatW.PrintWords.rd into iv))) (first|exact⟨z2,z3,z1⟩|exact⟨t2,t3,t1⟩) (first
     |(go_at_call 18;refine(Qtx e s (YtnnofopfbeklbaaGreatW.PrintWords.rd into iv) B W3.drew j.out).mono ?_;rintro ee w4 ⟨g,rfl,hIB,hb4,u⟩;have t1:=Qda hb4 z1;have t2:=Qda hb4 z2;have t3:=Qda hb4 z3))
    have bk5:=Qei (w:=W3.drew) bk4 hb4;obtain⟨q0,q1,q2,q3⟩:=box4 bk5;have hsz4:W3.drew.heap.size≤w4.heap.size:=hb4.size;have HIB:=QA hIB;clear z1 z2 z3 t1 t2 t3 hIB bk4
    go_wp2_with (go_at_call 21;refine(Qty W3.drew.heap.size g B B' r w4 HIB.out u hsz4 l.out).mono ?_;rintro ee w6 ⟨rfl,hIB6,hb6⟩)
    go_roundw
    case rel =>
     have hw3:wr.heap.size≤W3.drew.heap.size:=hB4.size;have hol:∀k,vo.ownBlock=some k→k<W3.drew.heap.size:=fun k hk=>Nat.lt_of_lt_of_le (Kd.R_lt HO.out k hk) hw3
     have hO3:=R8.kept HO.out hB4;have hO4:R8 w4 b vo out:=R8.kept (W:=W3.drew) hO3 hb4;have hO6:=Qwr hO4 hb6 hol;have hs6:W3.drew.heap.size≤w6.heap.size:=Nat.le_trans hsz4 hb6.size;refine⟨vo,_,i+1,iv+1,out,some B',rfl,rfl,by go_num,⟨by have:=HI.out;omega⟩,hlt,HG',⟨hO6⟩,⟨g,W3.drew.heap.size,rfl,Nat.le_trans hbz hw3,u,hs6,hol,hIB6,by omega⟩,⟨?_⟩⟩;exact HB.out.trans ((Qjp hB4 hbz).trans ((Qcx (Below.refl _ _)).trans ((Qjp hb4 (Nat.le_trans hbz hw3)).trans (Qjp hb6 (Nat.le_trans hbz hw3)))))
    case measure=>simp[intOf];omega
   ·obtain⟨B,rfl⟩:∃B,ob=some B:=by
     have h:=HOP.out
     cases ob with
     | none=>exact absurd h.2 hz
     | some B=>exact⟨B,rfl⟩
    obtain⟨g,b2,rfl,hbb2,hb2g,hb2z,hol,hIB0,_⟩:=HOP.out;have HIB0:=QA hIB0;have hz0:(iv == 0)=false:=beq_eq_false_iff_ne.2 (by have:=HI.out;omega);obtain⟨jv,hjv⟩:∃jv,jv=iv-1:=⟨_,rfl⟩;have hj0:0≤jv:=by have:=HI.out;omega
    unfold encG at hg;rw[if_pos (by rw[← HNI.out];exact hi2)]at hg;dsimp only at hg;rw[if_neg hz,← HI.out,← hjv]at hg;have HOL:=QA hol;have HZ:=QA hz;clear hIB0 hol hz HOP
    by_cases heq:YtnnofopfbeklbaaGreatW.PrintWords.rd into iv=YtnnofopfbeklbaaGreatW.PrintWords.rd into jv
    ·rw[if_pos heq]at hg;obtain⟨B',hB2',hg⟩:=Option.bind_eq_some_iff.mp hg;have HG':=QA hg;have l:=QA hB2';have hne:(YtnnofopfbeklbaaGreatW.PrintWords.rd into iv != YtnnofopfbeklbaaGreatW.PrintWords.rd into jv)=false:=by rw[heq];simp
     clear heq hg hB2';obtain⟨adi,rfl,y0⟩:=Kd.at_int HCI.out iv h0 (by have:=HNI.out;have:=HI.out;omega);obtain⟨adj,ej,yj0⟩:=Kd.at_int HCI.out jv hj0 (by have:=HNI.out;have:=HI.out;omega)
     cases ej
     have hci1:iv<(ni:Int):=by have:=HI.out;omega
     have hcj1:jv<(ni:Int):=by omega
     obtain⟨k0,k1⟩:=box2 HK2.out;have hb':Below wr.heap.size wr (wr.alloc (.cells #[.bool r.f0,.int .u64 r.f1,.string r.f2,.string r.f3] 39)):=Qcw (Below.refl _ _) _;have hbz:b≤wr.heap.size:=by rw[HBD.out];exact HB.out.size
     have hB3:=HB.out.trans (Qjp hb' hbz);have y1:=hcell hB3 y0;have yj1:=hcell hB3 yj0;have k2:=hcell hB3 k0;have k3:=hcell hB3 k1;have bk:=Qej wr (.cells #[.bool r.f0,.int .u64 r.f1,.string r.f2,.string r.f3] 39);have HJ:=QA hjv;have hwr:IntKind.i64.wrap (iv-1)=jv:=by rw[IntWalk.i64_in _ (by omega)];exact hjv.symm
     clear hjv y0 yj0 k0 k1;go_wp2
     go_quiet (fail)
     obtain⟨W3,hW3⟩:∃W3,W3=(wr.alloc (.cells #[.bool r.f0,.int .u64 r.f1,.string r.f2,.string r.f3] 39)).drewN nq:=⟨_,rfl⟩;have hbq:Below (wr.alloc (.cells #[.bool r.f0,.int .u64 r.f1,.string r.f2,.string r.f3] 39)).heap.size (wr.alloc (.cells #[.bool r.f0,.int .u64 r.f1,.string r.f2,.string r.f3] 39)) W3:=by rw[hW3];exact Qcy (Below.refl _ _) _
     have hB4:Below wr.heap.size wr W3:=Qcz hb' hb'.size hbq;have bk4:=Qei bk hbq;have z1:=Qda hbq y1;have z2:=Qda hbq k2;have z3:=Qda hbq k3;rw[← hW3];clear hW3 y1 yj1 k2 k3 bk hb' hbq hB3 hwr;obtain⟨q0,q1,q2,q3⟩:=box4 bk4;have hs3:b2≤W3.heap.size:=Nat.le_trans hb2z hB4.size;have HIB3:=QA (IsBd.kept HIB0.out hB4);clear z1 z2 z3 bk4
     go_wp2_with (go_at_call 21;refine(Qty b2 g B B' r W3 HIB3.out hb2g hs3 l.out).mono ?_;rintro ee w6 ⟨rfl,hIB6,hb6⟩)
     go_roundw
     case rel =>
      have hO6:=Qwr (R8.kept HO.out hB4) hb6 HOL.out;refine⟨vo,_,i+1,iv+1,out,some B',rfl,rfl,by go_num,⟨by have:=HI.out;omega⟩,hlt,HG',⟨hO6⟩,⟨g,b2,rfl,hbb2,hb2g,Nat.le_trans hs3 hb6.size,HOL.out,hIB6,by omega⟩,⟨?_⟩⟩;exact HB.out.trans ((Qjp hB4 hbz).trans (Qjp hb6 hbb2))
     case measure=>simp[intOf];omega
    ·rw[if_neg heq]at hg;obtain⟨oo,hseal,hg⟩:=Option.bind_eq_some_iff.mp hg;have hoo:out.length+oo.length≤lim:=by
      apply Decidable.byContradiction;intro hn;rw[if_neg hn]at hg
      cases hg
     rw[if_pos hoo]at hg;obtain⟨B1,hB1,hg⟩:=Option.bind_eq_some_iff.mp hg;obtain⟨B',hB2',hg⟩:=Option.bind_eq_some_iff.mp hg;have HG':=QA hg;have j:=QA hB1;have HBA:=QA hB2';have HSL:=QA hseal;have hoo':out.length+oo.length≤70368744177664:=hoo;have hne:(YtnnofopfbeklbaaGreatW.PrintWords.rd into iv != YtnnofopfbeklbaaGreatW.PrintWords.rd into jv)=true:=by simp[heq]
     clear heq hg hB1 hB2' hseal hoo;obtain⟨adi,rfl,y0⟩:=Kd.at_int HCI.out iv h0 (by have:=HNI.out;have:=HI.out;omega);obtain⟨adj,ej,yj0⟩:=Kd.at_int HCI.out jv hj0 (by have:=HNI.out;have:=HI.out;omega)
     cases ej
     have hci1:iv<(ni:Int):=by have:=HI.out;omega
     have hcj1:jv<(ni:Int):=by omega
     obtain⟨k0,k1⟩:=box2 HK2.out;have hb':Below wr.heap.size wr (wr.alloc (.cells #[.bool r.f0,.int .u64 r.f1,.string r.f2,.string r.f3] 39)):=Qcw (Below.refl _ _) _;have hbz:b≤wr.heap.size:=by rw[HBD.out];exact HB.out.size
     have hB3:=HB.out.trans (Qjp hb' hbz);have y1:=hcell hB3 y0;have yj1:=hcell hB3 yj0;have k2:=hcell hB3 k0;have k3:=hcell hB3 k1;have bk:=Qej wr (.cells #[.bool r.f0,.int .u64 r.f1,.string r.f2,.string r.f3] 39);have HJ:=QA hjv;have hwr:IntKind.i64.wrap (iv-1)=jv:=by rw[IntWalk.i64_in _ (by omega)];exact hjv.symm
     clear hjv yj0;go_wp2
     go_quiet (fail)
     obtain⟨W3,hW3⟩:∃W3,W3=(wr.alloc (.cells #[.bool r.f0,.int .u64 r.f1,.string r.f2,.string r.f3] 39)).drewN nq:=⟨_,rfl⟩;have hbq:Below (wr.alloc (.cells #[.bool r.f0,.int .u64 r.f1,.string r.f2,.string r.f3] 39)).heap.size (wr.alloc (.cells #[.bool r.f0,.int .u64 r.f1,.string r.f2,.string r.f3] 39)) W3:=by rw[hW3];exact Qcy (Below.refl _ _) _
     have hB4:Below wr.heap.size wr W3:=Qcz hb' hb'.size hbq;have bk4:=Qei bk hbq;have z1:=Qda hbq y1;have z2:=Qda hbq k2;have z3:=Qda hbq k3;rw[← hW3];clear hW3 y1 yj1 k2 k3 bk hb' hbq hB3 hwr z1 z2 z3;have hs3:b2≤W3.heap.size:=Nat.le_trans hb2z hB4.size;have HIB3:=QA (IsBd.kept HIB0.out hB4);have J:=QA (R8.kept HO.out hB4)
     go_wp2_with (first
      |(go_at_call 28;refine(Qub b2 g B oo W3 HIB3.out hs3 HSL.out).mono ?_;rintro ee w4 ⟨v4,rfl,hR4,hb4⟩;obtain⟨A4,n4,c4,rfl,m,hl4,hC4⟩:=R8.reads hR4;have n:=QA hC4;have d:=QA (R8.kept J.out hb4);have bk5:=Qei bk4 hb4;clear hR4 hC4 bk4)
      |(at_builtin;go_loud (refine Kd.R_append_rows (Kd.int .u8) (Rr:=fun x cs=>cs=[.int .u8 x]) (w0:=w4) b rfl (.tmp 53) (.tmp 54) 52 5 (.int .u8 0) 1 rfl Tryz.underlying52 Qiq rfl (by decide) (by omega) vo out oo A4 n4 c4 (fun _=>True) (fun _=>False) rfl rfl d.out n.out (fun _ _ h=>h) (fun _ hk=>hk.elim) (fun _ _=>trivial) (Below.refl _ _) (Nat.le_trans hbz (Nat.le_trans hB4.size hb4.size)) ?bL ?_;(case bL=>have:=m.out;omega);intro v5 w5 hR5 hb5 y hat5)))
     have c:=QA (show Below b w2 w5 from((HB.out.trans (Qjp hB4 hbz)).trans (Qjp hb4 (Nat.le_trans hbz hB4.size))).trans hb5);have bk6:=Qdx bk5 y (R8.clean d.out bk5 (by decide));have z1:=hcell (W:=w5.drew) (c.out.trans (Qcx (Below.refl _ _))) y0;have z2:=hcell (W:=w5.drew) (c.out.trans (Qcx (Below.refl _ _))) k0;have z3:=hcell (W:=w5.drew) (c.out.trans (Qcx (Below.refl _ _))) k1;have z:=QA hR5;have hb5z:b≤w5.drew.heap.size:=by rw[HBD.out];exact c.out.size
     clear hR5 hat5 hb5 hb4 y0 k0 k1 bk5
     go_region_held3 (fun w'=>w'.cell? ⟨w.heap.size,0,none⟩=some (.int .u8 e)∧w'.cell? ⟨w.heap.size,1,none⟩=some (.int .u32 s)∧w'.cell? (adi.add iv.toNat)=some (.int .u32 (YtnnofopfbeklbaaGreatW.PrintWords.rd into iv))) (first|exact⟨z2,z3,z1⟩|exact⟨t2,t3,t1⟩) (first
      |(go_at_call 18;refine(Qtx e s (YtnnofopfbeklbaaGreatW.PrintWords.rd into iv) B1 w5.drew j.out).mono ?_;rintro ee w6 ⟨g6,rfl,hIB,hb6,A⟩;have t1:=Qda hb6 z1;have t2:=Qda hb6 z2;have t3:=Qda hb6 z3))
     have bk7:=Qei (w:=w5.drew) bk6 hb6;obtain⟨q0,q1,q2,q3⟩:=box4 bk7;have hsz6:w5.drew.heap.size≤w6.heap.size:=hb6.size;have HIB:=QA hIB;clear z1 z2 z3 t1 t2 t3 hIB bk6
     go_wp2_with (go_at_call 21;refine(Qty w5.drew.heap.size g6 B1 B' r w6 HIB.out A hsz6 HBA.out).mono ?_;rintro ee w7 ⟨rfl,hIB7,hb7⟩)
     go_roundw
     case rel =>
      have hol5:∀k,v5.ownBlock=some k→k<w5.drew.heap.size:=fun k hk=>Kd.R_lt z.out k hk
      have hO6:R8 w6 b v5 (out++oo):=R8.kept (W:=w5.drew) z.out hb6;have hO7:=Qwr hO6 hb7 hol5;refine⟨v5,_,i+1,iv+1,out++oo,some B',rfl,rfl,by go_num,⟨by have:=HI.out;omega⟩,hlt,HG',⟨hO7⟩,⟨g6,w5.drew.heap.size,rfl,hb5z,A,Nat.le_trans hsz6 hb7.size,hol5,hIB7,by omega⟩,⟨?_⟩⟩;exact c.out.trans ((Qcx (Below.refl _ _)).trans ((Qjp hb6 hb5z).trans (Qjp hb7 hb5z)))
     case measure=>simp[intOf];omega
  ·have hin':i=n1:=by omega
   have hge:¬iv<(n1:Int):=by have:=HI.out;omega
   have hb1:decide (iv<(n1:Int))=false:=decide_eq_false hge;have hbz:b≤wr.heap.size:=by rw[HBD.out];exact HB.out.size
   have hwb:w.heap.size≤b:=by rw[HBD.out];omega
   have hg:encG e s into i [] out ob=some o:=by
    have h:=HG.out;rw[List.drop_of_length_le qq_22]at h;exact h
   cases ob with
   | none =>
    obtain⟨rfl,_⟩:=HOP.out;simp only[encG]at hg;have ho:out=o:=Option.some.inj hg;have HOO:=QA ho;clear ho hg HOP hin';go_wp2;refine bodyPost_ret (results_tmp2 rfl _ _ _) rfl ?_;refine⟨_,rfl,?_,HBW.out.trans (Qjp HB.out hwb)⟩;rw[← HOO.out];exact R8.low HO.out hwb
   | some B =>
    obtain⟨g,b2,rfl,hbb2,hb2g,hb2z,hol,hIB0,_⟩:=HOP.out;simp only[encG]at hg;obtain⟨oo,hopen,hg⟩:=Option.bind_eq_some_iff.mp hg;have hoo:out.length+oo.length≤lim:=by
     apply Decidable.byContradiction;intro hn;rw[if_neg hn]at hg
     cases hg
    rw[if_pos hoo]at hg;have hoo':out.length+oo.length≤70368744177664:=hoo;have ho:out++oo=o:=Option.some.inj hg;have HOO:=QA ho;have HOPN:=QA hopen;have HIB0:=QA hIB0;clear ho hg HOP hin' hopen hIB0 hol hoo
    go_wp2_with (first
     |(go_at_call 30;refine(Quc b2 g B oo wr HIB0.out hb2z HOPN.out).mono ?_;rintro ee w4 ⟨v4,rfl,hR4,hb4⟩;obtain⟨A4,n4,c4,rfl,m,hl4,hC4⟩:=R8.reads hR4;have n:=QA hC4;have d:=QA (R8.kept HO.out hb4);clear hR4 hC4)
     |(at_builtin;go_loud (refine Kd.R_append_rows (Kd.int .u8) (Rr:=fun x cs=>cs=[.int .u8 x]) (w0:=w4) b rfl (.tmp 71) (.tmp 73) 52 5 (.int .u8 0) 1 rfl Tryz.underlying52 Qiq rfl (by decide) (by omega) vo out oo A4 n4 c4 (fun _=>True) (fun _=>False) rfl rfl d.out n.out (fun _ _ h=>h) (fun _ hk=>hk.elim) (fun _ _=>trivial) (Below.refl _ _) (Nat.le_trans hbz hb4.size) ?bL ?_;(case bL=>have:=m.out;omega);intro v5 w5 hR5 hb5 y hat5)))
    refine bodyPost_ret (results_tmp2 rfl _ _ _) rfl ?_;refine⟨_,rfl,?_,HBW.out.trans (Qjp ((HB.out.trans (Qjp hb4 hbz)).trans hb5) hwb)⟩;rw[← HOO.out];exact R8.low hR5 hwb
theorem enc_not(k:Nat)(e s er:Int)(A1:Option Addr)(c1 n1:Nat)(l1:List Rec)(into sizes:List Int)(w:World)(a:n1=l1.length)(hr1:Kd.C k39 w A1 n1 l1)(hc1:n1≤c1)
  (hp:Qce.f k e s l1=some (into,sizes,er)) (her:er≠0) :
  Calls Tryz.prog 33 #[.agg #[.int .u8 e,.int .u32 s],.slice A1 n1 c1] w fun ee w'=>∃v,ee=.returned (.tuple #[v,.int .i64 er])∧R8 w' w.heap.size v []∧Below w.heap.size w w':=by
 have hu:=Tryz.underlying27;have HN:=QA a;have HC:=QA hr1;have HP:=QA hp;have hnb:(er == 0)=false:=beq_eq_false_iff_ne.2 her;have hnc:(er != 0)=true:=bne_iff_ne.2 her;clear a hr1 hp her;have hba:Below w.heap.size w (w.alloc (.cells #[.int .u8 e,.int .u32 s] 27)):=Qcw (Below.refl _ _) _;have hbn:=Qej w (.cells #[.int .u8 e,.int .u32 s] 27);have HCa:=QA (Kd.C_alloc HC.out (.cells #[.int .u8 e,.int .u32 s] 27));have hplan:Calls Tryz.prog 73 #[.agg #[.int .u8 e,.int .u32 s],.slice A1 n1 c1] (w.alloc (.cells #[.int .u8 e,.int .u32 s] 27)) fun ee w'=>∃b c:Value,ee=.returned (.tuple #[b,c,.int .i64 er])∧Below (w.alloc (.cells #[.int .u8 e,.int .u32 s] 27)).heap.size (w.alloc (.cells #[.int .u8 e,.int .u32 s] 27)) w':=by
  have hC:=HCa.out;rw[HN.out]at hC ⊢;exact(Qce.calls k e s A1 c1 l1 into sizes er _ hC qq_22 HP.out).mono fun _ _ ⟨v0,v1,h1,_,_,h4⟩=>⟨v0,v1,h1,h4⟩
 have HPL:=QA hplan;clear hplan;obtain⟨c0,d⟩:=box2 hbn
 go_enter Tryz.func33,Tryz.ntmps33
 go_wp2_with (go_at_call 73;refine HPL.out.mono ?_;rintro ee w2 ⟨vi,vz,rfl,hb2⟩)
 refine bodyPost_ret (results_tmp2 rfl _ _ _) rfl ?_;exact⟨_,rfl,Kd.R_nil _ _ _ _ _,Qcz hba hba.size hb2⟩
theorem Qcd.calls(k:Nat)(a0_0:Int)(a0_1:Int)(A1:Option Addr)(c1:Nat)(l1:List S39)(r1:List Int)(r2:Int)(w:World)(hr1:Kd.C k39 w A1 l1.length l1)(hc1:l1.length≤c1)(h:Qcd.f k a0_0 a0_1 l1=some (r1,r2)) :
  Calls Tryz.prog 33 #[.agg #[.int .u8 a0_0,.int .u32 a0_1],.slice A1 l1.length c1] w fun e w'=>∃v0_:Value,e=.returned (.tuple #[v0_,.int .i64 r2])∧Kd.R (Kd.int .u8) 5 w' w.heap.size (fun _=>True) v0_ r1∧Below w.heap.size w w':=by
 unfold Qcd.f at h;obtain⟨⟨into,sizes,er⟩,hp,h⟩:=Option.bind_eq_some_iff.mp h;dsimp only at h
 by_cases her:er=0
 ·subst her;rw[if_pos rfl]at h
  by_cases hl:l1.length≤1099511627776
  ·rw[if_pos hl]at h;obtain⟨o,ho,h⟩:=Option.bind_eq_some_iff.mp h;simp only[Option.some.injEq,Prod.mk.injEq]at h;obtain⟨rfl,rfl⟩:=h;exact enc_of k a0_0 a0_1 A1 c1 l1.length l1 into sizes _ w rfl hr1 hc1 hl hp ho
  ·rw[if_neg hl]at h;cases h
 ·rw[if_neg her]at h;simp only[Option.some.injEq,Prod.mk.injEq]at h;obtain⟨rfl,rfl⟩:=h;exact enc_not k a0_0 a0_1 _ A1 c1 l1.length l1 into sizes w rfl hr1 hc1 hp her
def recA:Rec:=⟨false,0,⟨#[97]⟩,⟨#[]⟩⟩
def frA:List Int:=match Qbz.f false 0 ⟨#[97]⟩ ⟨#[]⟩with|some p=>p.1|none=>[]
def oA:List Int:=h12++frA++List.replicate (4096-(h12++frA).length) 255
theorem encA0:Qcd.f 9 12 1 []=some ([],0):=by kernel_rfl
theorem encA1:Qcd.f 40 12 1 [recA]=some (oA,0):=by kernel_rfl
theorem oA_len:oA.length=4096:=by kernel_rfl
def Qaq.f:Option Bool:=some true
theorem Qaq.calls(r:Bool)(w:World)(h:Qaq.f=some r) :
  Calls Tryz.prog 32 #[] w fun e w'=>e=.returned (.bool r)∧Below w.heap.size w w':=by
 obtain rfl:=Option.some.inj h;have hu:=Tryz.underlying27;have hu2:=Tryz.underlying39;have bn:=Qej w (.cells #[.int .u8 12,.int .u32 1] 27);have hb0:Below w.heap.size w (w.alloc (.cells #[.int .u8 12,.int .u32 1] 27)):=Qcw (Below.refl _ _) _;obtain⟨c0,c1⟩:=box2 bn;have hnil:∀W:World,Kd.C k39 W none ([]:List Rec).length []:=fun W=>Kd.C_nil _ W
 have HNIL:=QA hnil;have hone:∀W:World,Kd.C k39 (W.alloc (.cells #[.bool false,.int .u64 0,.string ⟨#[97]⟩,.string ⟨#[]⟩] 39)) (some ⟨W.heap.size,0,none⟩) [recA].length [recA]:=fun W=>by
  have hR:Kd.R k39 39 (W.alloc (.cells #[.bool false,.int .u64 0,.string ⟨#[97]⟩,.string ⟨#[]⟩] 39)) W.heap.size (fun _=>True) (.slice (some ⟨W.heap.size,0,none⟩) 1 1) [recA]:=by
   refine⟨fun _ _=>trivial,[.bool false,.int .u64 0,.string ⟨#[97]⟩,.string ⟨#[]⟩],World.ownsRow_lit (base:=W.heap.size) (e:=39) (size:=4) W #[.bool false,.int .u64 0,.string ⟨#[97]⟩,.string ⟨#[]⟩] 1 (Nat.le_refl _) (by decide) rfl,rfl,fun j p hj=>?_⟩;obtain⟨hj1,rfl⟩:=List.getElem?_eq_some_iff.1 hj;obtain rfl:j=0:=by simpa using hj1
   exact Qit _ _ _ recA
  exact(Kd.R_reads' hR).2.2
 have HONE:=QA hone;clear hnil hone
 go_enter Tryz.func32,Tryz.ntmps32
 go_wp2_with (first
  |(go_at_call_of 33 (Value.slice none 0 0);refine(Qcd.calls 9 12 1 none 0 [] [] 0 _ (HNIL.out _) (Nat.le_refl _) encA0).mono ?_;rintro e w1 ⟨v1,rfl,hR1,hb1⟩;obtain⟨A1,n1,g,rfl,c,hl1,hC1⟩:=R8.reads hR1;have a:n1=0:=c.out;subst a;have bk1:=Qei bn hb1;clear c0 c1;obtain⟨c0,c1⟩:=box2 bk1)
  |(go_at_call 33;go_loud (refine(Qcd.calls 40 12 1 (some ⟨w1.heap.size,0,none⟩) 1 [recA] oA 0 _ (HONE.out w1) (Nat.le_refl _) encA1).mono ?_;rintro e w2 ⟨v2,rfl,hR2,hb2⟩;obtain⟨A2,n2,c2,rfl,d,hl2,hC2⟩:=R8.reads hR2;have b:n2=4096:=d.out.trans oA_len;subst b))
  |(go_at_call 15;refine(Qap.calls true _ rfl).mono ?_;rintro e w3 ⟨rfl,hb3⟩))
 go_ret
 have hb12:=(Qcz hb0 hb0.size hb1);have hz1:w.heap.size≤w1.heap.size:=hb12.size;have hb2':Below w1.heap.size w1 w2:=Qcz (Qcw (Below.refl _ _) _) (by rw[World.size_alloc];omega) hb2;exact⟨rfl,Qcz (Qcz hb12 hz1 hb2') (Nat.le_trans hz1 hb2'.size) hb3⟩
end Go.Proofs.YtnnofopfbeklbaaGreat.C
end
section
namespace Go.Proofs.YtnnofopfbeklbaaGreat.CodecP
open Go.RowKit Go.Proofs.YtnnofopfbeklbaaGreat.C Go.Proofs.YtnnofopfbeklbaaGreatW.PrintWords Go.Proofs.YtnnofopfbeklbaaGreatW.PrintLast Go.Proofs.YtnnofopfbeklbaaGreatW.PrintMore
def chkR(r:Rec):Int:=chk r.f0 r.f2 r.f3
def Qud(r:Rec):List Int:=Qoa (Qnv r.f0 r.f1 r.f2 r.f3)
theorem Bytes.app{a b:List Int}(h1:Bytes a)(h2:Bytes b):Bytes (a++b):=fun x hx=>(List.mem_append.1 hx).elim (h1 x) (h2 x)
theorem Bytes.left{a b:List Int}(h:Bytes (a++b)):Bytes a:=fun x hx=>h x (List.mem_append_left _ hx)
theorem Bytes.right{a b:List Int}(h:Bytes (a++b)):Bytes b:=fun x hx=>h x (List.mem_append_right _ hx)
theorem Bytes.cons{a:Int}{b:List Int}(h1:0≤a∧a<256)(h2:Bytes b):Bytes (a :: b):=fun x hx=>by
 rcases List.mem_cons.1 hx with rfl|hx
 ·exact h1
 ·exact h2 x hx
theorem Bytes.tail{a:Int}{b:List Int}(h:Bytes (a :: b)):Bytes b:=fun x hx=>h x (List.mem_cons_of_mem _ hx)
theorem Free.app{a b:List Int}(h1:Free a)(h2:Free b):Free (a++b):=fun x hx=>(List.mem_append.1 hx).elim (h1 x) (h2 x)
theorem Free.cons{a:Int}{b:List Int}(h1:a≠0)(h2:Free b):Free (a :: b):=fun x hx=>by
 rcases List.mem_cons.1 hx with rfl|hx
 ·exact h1
 ·exact h2 x hx
theorem Que:∀l:List Int,Free l∨∃a b,l=a++0 :: b∧Free a
 | []=>.inl (fun x hx=>by cases hx)
 | c :: l=>by
  by_cases hc:c=0
  ·exact .inr ⟨[],l,by rw[hc];rfl,fun x hx=>by cases hx⟩
  ·rcases Que l with h |⟨a,b,rfl,h⟩
   ·exact .inl (h.cons hc)
   ·exact .inr ⟨c :: a,b,rfl,h.cons hc⟩
theorem Quf{b:List Int}(hb:Bytes b) :
  (∃a r,b=a++0 :: r∧Free a∧a.length<254∧Qle b=((a.length:Int)+1) :: (a++Qle r)) ∨
  (∃a r,b=a++r∧Free a∧a.length=254∧r≠[]∧Qle b=255 :: (a++Qle r)) ∨
  (Free b∧b.length≤254∧Qle b=((b.length:Int)+1) :: b):=by
 rcases Que b with hf |⟨a,r,rfl,hf⟩
 ·by_cases hl:b.length≤254
  ·refine .inr (.inr ⟨hf,hl,?_⟩);rw[Qoq hb hf hl]
   congr 1
   omega
  ·refine .inr (.inl ⟨b.take 254,b.drop 254,(List.take_append_drop 254 b).symm,fun x hx=>hf x (List.mem_of_mem_take hx),by rw[List.length_take];omega,fun h=>by have:=congrArg List.length h;rw[List.length_drop]at this;simp at this;omega,?_⟩);have:=Qor (now:=b.take 254) (rest:=b.drop 254) (hb.take 254) (fun x hx=>hf x (List.mem_of_mem_take hx)) (by rw[List.length_take];omega) (fun h=>by have:=congrArg List.length h;rw[List.length_drop]at this;simp at this;omega);rw[List.take_append_drop]at this;exact this
 ·by_cases hl:a.length<254
  ·refine .inl ⟨a,r,rfl,hf,hl,?_⟩;rw[Qop hb.left hf hl]
   congr 1
   omega
  ·have h1:a++0 :: r=a.take 254++(a.drop 254++0 :: r):=by rw[← List.append_assoc,List.take_append_drop]
   refine .inr (.inl ⟨a.take 254,a.drop 254++0 :: r,h1,fun x hx=>hf x (List.mem_of_mem_take hx),by rw[List.length_take];omega,by simp,?_⟩);rw[h1];exact Qor (hb.left.take 254) (fun x hx=>hf x (List.mem_of_mem_take hx)) (by rw[List.length_take];omega) (by simp)
theorem Qug:∀(n:Nat) (b:List Int),b.length≤n→Bytes b→Free (Qle b)∧Bytes (Qle b)∧Qle b≠[]
 | n,b,hn,hb=>by
  rcases Quf hb with⟨a,r,rfl,hf,hl,e⟩ |⟨a,r,rfl,hf,hl,hr,e⟩ |⟨hf,hl,e⟩
  ·rw[List.length_append,List.length_cons]at hn
   match n,hn with
   | n+1,hn =>
    have ih:=Qug n r (by omega) hb.right.tail;rw[e];exact⟨(hf.app ih.1).cons (by omega),(hb.left.app ih.2.1).cons (by omega),by simp⟩
  ·rw[List.length_append]at hn
   match n,hn with
   | 0,hn=>omega
   | n+1,hn =>
    have ih:=Qug n r (by omega) hb.right;rw[e];exact⟨(hf.app ih.1).cons (by omega),(hb.left.app ih.2.1).cons (by omega),by simp⟩
  ·rw[e];exact⟨hf.cons (by omega),hb.cons (by omega),by simp⟩
theorem Quh:∀(n:Nat) (x:Int),Bytes (leb x n)
 | 0,_=>fun y hy=>by cases hy
 | n+1,x=>(Quh n (x/256)).cons (by omega)
theorem Qui:∀(n:Nat) (x:Int),0≤x→x<256*128^n→Bytes (vput n x)
 | 0,x,h0,h1=>by
  unfold vput;intro y hy
  rcases List.mem_singleton.1 hy with rfl
  omega
 | n+1,x,h0,h1=>by
  unfold vput;split
  ·intro y hy
   rcases List.mem_singleton.1 hy with rfl
   omega
  ·refine(Qui n (x/128) (by omega) ?_).cons (by omega);rw[Int.pow_succ]at h1;omega
theorem Quj(x:Int)(h0:0≤x)(h1:x<18446744073709551616):Bytes (vput 9 x):=Qui 9 x h0 (by omega)
theorem Quk(d:Bool)(s:Int)(key v:ByteArray)(h0:0≤s)(h1:s<18446744073709551616)(hk:key.size≤4611686018427387904)(hv:v.size≤4611686018427387904):Bytes (Qnv d s key v):=by
 unfold Qnv;refine Bytes.app (Bytes.app (Bytes.app ?_ (Quj s h0 h1)) ((Quj _ (by omega) (by omega)).app (Qmw key))) ?_
 ·intro y hy
  rcases List.mem_singleton.1 hy with rfl
  split<;>omega
 ·split
  ·intro y hy;cases hy
  ·exact(Quj _ (by omega) (by omega)).app (Qmw v)
theorem Qul{key v:ByteArray}(h:chk true key v=0):v=ByteArray.empty:=by
 unfold chk at h;split at h
 ·cases h
 split at h
 ·cases h
 split at h
 ·cases h
 ·rename_i h3;have h4:v.toList=[]:=by simpa using h3
  have h5:=(size_nil_iff v).1 h4;refine Qoj (List.eq_nil_of_length_eq_zero ?_);rw[Qdi];exact h5
def okR(r:Rec):Prop:=chkR r=0∧0≤r.f1∧r.f1<18446744073709551616
theorem Qum{r:Rec}(h:okR r):Bytes (Qnv r.f0 r.f1 r.f2 r.f3):=by
 have:=Qnu h.1;exact Quk _ _ _ _ h.2.1 h.2.2 (by omega) (by omega)
end Go.Proofs.YtnnofopfbeklbaaGreat.CodecP
end
