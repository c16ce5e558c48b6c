/- Texts of this claim's author and of the print of its functions, merged by merge.py. -/
import Derived.Test.YtnnofopfbeklbaaGreatMH02
import Derived.RangeFuncNested
import Derived.RangeFuncBound
import Derived.RangeFuncCalls
import Derived.RangeFuncLeaves
import Derived.Shelf.Abstract
import Derived.Shelf.RegionOpen
import Derived.OwnWalkIn
import Derived.TacticsInMore
import Derived.LoopNIn
import Derived.LoopIn
import Derived.Test.YtnnofopfbeklbaaGreatMH26
import Derived.Test.YtnnofopfbeklbaaGreatMH11
import Derived.Test.YtnnofopfbeklbaaGreatMH10
set_option linter.unusedVariables false
set_option linter.unusedSimpArgs false
set_option maxHeartbeats 8000000
set_option maxRecDepth 100000
section
namespace Go.Proofs.YtnnofopfbeklbaaGreat.C
open Go.RowKit Go.Proofs.YtnnofopfbeklbaaGreatW.PrintWords Go.Proofs.YtnnofopfbeklbaaGreatW.PrintLast Go.Proofs.YtnnofopfbeklbaaGreatW.PrintMore
open Go.Shelf
attribute [local go_sem] Oper.semAt_some Qif Qig Qih Qii
def chN(n:Nat):Nat:=(n+15)/16
def chV(ad:Addr)(n k:Nat):Value:=.slice (some (ad.add (k*16*2))) (min 16 (n-k*16)) (min 16 (n-k*16))
theorem infoE:∃i,Tryz.prog.info? 117=some i∧i.size=2:=by
 obtain⟨i0,hi,hzz⟩:=Option.map_eq_some_iff.1 Qoo
 simp only[Prod.mk.injEq]at hzz
 exact⟨i0,hi,hzz.2.1⟩
theorem Qou{k m:Nat}(h:k≤m):List.range k <+: List.range m:=by
 refine⟨(List.range (m-k)).map (k+·),?_⟩
 have:=@List.range_add k (m-k)
 rw[show k+(m-k)=m by omega]at this
 exact this.symm
theorem Qov(F:Fence)(n:Nat)(hf:F.fn 204)(hro:F.round=none)(hn:1≤n)(l Bs Bn n₀:Nat)(ad:Addr)(m c0:Nat)(w0:World)(hc:m≤c0)(hm:m≤1099511627776)(hn0:n₀=w0.heap.size)(Kp:World→World→Prop)(hKc:∀A B b,Kp A B→(b=Bs∨b=Bn)→B.cell? ⟨b,0,none⟩=A.cell? ⟨b,0,none⟩)(enc:Nat→Value)(henc:∀k,k<chN m→enc k=chV ad m k)(J Jx:List Nat→World→Prop)
  (hJd:∀pre W q,J pre W→J pre (W.drewN q)) (hY:∀pre x W,J pre W→pre.length<chN m→YieldAt F (n-1) Tryz.prog l #[enc x] W fun e W' =>
   (e=.returned (.bool true)∧J (pre++[x]) W'∧Kp W W')∨(e=.returned (.bool false)∧Jx (pre++[x]) W'))
  (W:World) (hBs0:w0.cell? ⟨Bs,0,none⟩=some (.slice (some ad) m c0)) (hBn0:w0.cell? ⟨Bn,0,none⟩=some (.int .i64 16)) (hw:Below n₀ w0 W) (h0:J [] W) :
  CallsIn F n Tryz.prog 204 #[.func (.yield l) #[] #[],.pointer (some ⟨Bs,0,none⟩),.pointer (some ⟨Bn,0,none⟩)] W fun e W'=>(∃v,e=.returned v) ∧
   ((∃ys,ys=List.range (chN m)∧J ys W')∨(∃pre,pre <+: List.range (chN m)∧Jx pre W')):=by
 have keep0:∀ {W:World} {a:Addr} {v:Value},Below n₀ w0 W→w0.cell? a=some v→W.cell? a=some v:=fun {W a v} hb h=>(hb.cell (by have:=World.block_lt_of_cell? w0 _ h;omega)).trans h
 have hBs:W.cell? ⟨Bs,0,none⟩=some (.slice (some ad) m c0):=keep0 hw hBs0
 have hBn:W.cell? ⟨Bn,0,none⟩=some (.int .i64 16):=keep0 hw hBn0
 refine callsIn_of_wp Tryz.func204 rfl hf ?_ hro
 simp only[Tryz.ntmps204,List.size_toArray,List.length_cons,List.length_nil,Nat.reduceAdd,Nat.reduceSub,Array.replicate_succ,Array.replicate_zero,List.push_toArray,List.append_toArray,List.nil_append,List.cons_append]
 gi_wp2
 gi_loopw [4] (fun i wr=>∃(k:Nat) (iv:Int),k≤chN m∧i=.int .i64 iv∧Aside0 (iv=(k:Int)*16)∧J (List.range k) wr∧wr.cell? ⟨Bs,0,none⟩=some (.slice (some ad) m c0)∧wr.cell? ⟨Bn,0,none⟩=some (.int .i64 16))
  (fun i _=>((m:Int)+16-intOf i).toNat)
 case atStart=>exact⟨0,_,Nat.zero_le _,rfl,⟨by simp⟩,by simpa using h0,hBs,hBn⟩
 case round =>
  obtain⟨k,iv,hk,rfl,HI,hJs,hcs,hcn⟩:=hrel
  by_cases hlt:iv<(m:Int)
  ·have hkm:k*16<m:=by have:=HI.out;omega
   have hk2:k<chN m:=by unfold chN;omega
   have h0:0≤iv:=by have:=HI.out;omega
   have hb1:decide (iv<(m:Int))=true:=decide_eq_true hlt
   have hivn:iv.toNat=k*16:=by have:=HI.out;omega
   obtain⟨A',n',c',hn',hhd⟩:∃(A':Option Addr) (n' c':Nat),n'=m-k*16∧∀W:World,(Instr.slice 106 (.slice (some ad) m c0) (some (.int .i64 iv)) none none).run Tryz.prog W=.ok (.slice A' n' c') W:=by
    obtain⟨i0,hi,hsz⟩:=infoE
    have h:=Qeu (P:=Tryz.prog) 106 117 .i64 Tryz.underlying106 hi 2 hsz (some ad) m c0 iv h0 (by omega)
    exact⟨_,_,_,by rw[hivn],h⟩
   obtain⟨e,he⟩:∃e:Int,e=((min 16 (m-k*16):Nat):Int):=⟨_,rfl⟩
   have he0:0≤e:=by omega
   obtain⟨hi,hhi⟩:∃hi:Int,hi=iv+e:=⟨_,rfl⟩
   have hch:∀W:World,(Instr.slice 106 (.slice (some ad) m c0) (some (.int .i64 iv)) (some (.int .i64 hi)) (some (.int .i64 hi))).run Tryz.prog W=.ok (chV ad m k) W:=by
    intro W
    obtain⟨i0,hii,hsz⟩:=infoE
    have hel:Tryz.prog.elem 106=117:=by simp[Program.elem,Tryz.underlying106]
    have hu:Tryz.prog.underlying 106=some (.slice (Tryz.prog.elem 106)):=by rw[hel];exact Tryz.underlying106
    rw[run_slice_lhm W 106 (some ad) m c0 hu .i64 .i64 .i64 iv hi hi h0 (by omega) (by omega) (by have:=HI.out;omega),hel]
    have hsz2:(hi.toNat-iv.toNat)=min 16 (m-k*16):=by omega
    have hne:¬hi.toNat-iv.toNat=0:=by omega
    simp[sizeOf,typeInfo,hii,hsz,sliced,Result.andThen,chV,hivn]
    omega
   have hwr:IntKind.i64.wrap (iv+e)=hi:=by rw[IntWalk.i64_in _ (by have:=HI.out;omega)];exact hhi.symm
   obtain⟨jv,hj⟩:∃jv:Int,jv=iv+16:=⟨_,rfl⟩
   have hwn:IntKind.i64.wrap (iv+16)=jv:=by rw[IntWalk.i64_in _ (by have:=HI.out;omega)];exact hj.symm
   have hjm:jv≤(m:Int)+16:=by omega
   have hjp:iv<jv:=by omega
   have hmin:((n':Int)<16∧e=(n':Int))∨(¬(n':Int)<16∧e=16∧jv=hi):=by omega
   have HJ:=QA hj
   have HE:=QA he
   have HH:=QA hhi
   have HN:=QA hn'
   have hlt2:iv+16≤(m:Int)+16:=by omega
   have HK:=QA hkm
   have hlt2':=hlt2
   clear he hhi hn' hivn hkm hj hlt2 hlt2'
   rcases hmin with⟨h16,rfl⟩ |⟨h16,rfl,rfl⟩
   all_goals
    gi_wp2
    refine wpIn_region_quiet_lit hro qq_6 qq_6 ?_
    repeat(gi_big_quiet_step (fail))
    refine wpQuietIn_nil ?_
    intro _ hw'
    obtain⟨nq,hw''⟩:=hw'
    subst hw''
    obtain⟨fn,tmps,assign,body,hy,hR⟩:=hY _ k (wr.drewN nq) (hJd _ _ _ hJs) (by rw[List.length_range];exact hk2)
    rw[henc k hk2]at hy
    gi_wp2
    refine hR.mono ?_
    rintro e W3 (⟨rfl,hJ3,hk3⟩ |⟨rfl,hJx3⟩)
    ·have hcn3:W3.cell? ⟨Bn,0,none⟩=some (.int .i64 16):=(hKc _ _ _ hk3 (.inr rfl)).trans hcn
     have hcs3:W3.cell? ⟨Bs,0,none⟩=some (.slice (some ad) m c0):=(hKc _ _ _ hk3 (.inl rfl)).trans hcs
     gi_wp2
     go_roundw
     case rel=>exact⟨k+1,_,hk2,rfl,⟨by have:=HI.out;have:=HJ.out;omega⟩,by rw[List.range_succ];exact hJ3,hcs3,hcn3⟩
     case measure=>simp[intOf];omega
    ·gi_wp2
     refine bodyPost_ret (results_none rfl _ _ _) rfl ?_
     exact⟨⟨_,rfl⟩,.inr ⟨_,by have:=Qou (k:=k+1) hk2;rw[List.range_succ]at this;exact this,hJx3⟩⟩
  ·have hkm:m≤k*16:=by have:=HI.out;omega
   have hk2:k=chN m:=by unfold chN at hk ⊢;omega
   have hb1:decide (iv<(m:Int))=false:=decide_eq_false hlt
   gi_wp2
   go_end0
   exact⟨⟨_,rfl⟩,.inl (by rw[← hk2];exact hJs)⟩
theorem Qow(F:Fence)(n:Nat)(h5:F.fn 162)(hro:F.round=none)(a:Option Addr)(len cap:Nat)(w:World) :
  CallsIn F n Tryz.prog 162 #[.slice a len cap,.int .i64 16] w fun e w'=>e=.returned (.func (.func 204) #[] #[.pointer (some ⟨w.heap.size,0,none⟩),.pointer (some ⟨w.heap.size+1,0,none⟩)])∧w'=(w.alloc (.cells #[.slice a len cap] 106)).alloc (.cells #[.int .i64 16] 3):=by
 refine callsIn_of_wp Tryz.func162 rfl h5 ?_ hro
 simp only[Tryz.ntmps162,List.size_toArray,List.length_cons,List.length_nil,Nat.reduceAdd,Nat.reduceSub,Array.replicate_succ,Array.replicate_zero,List.push_toArray,List.append_toArray,List.nil_append,List.cons_append]
 gi_wp2
 go_ret
 exact⟨rfl,rfl⟩
theorem Qox{F:Fence}{n:Nat}{P:Program}{ops:Array Oper}{o:Oper}{a:Act}{Q:Exit→Act→World→Prop}{Kc:Act→World→Prop}{W w1:World}{v v1 v2:Value}{s x:Operand}{t:TypeId}
  (hw:Region.wanted o (yielded ops a.tmps)=true) (ho:o.op=.call { callee:=.builtin .append,args:=#[s,x],argTypes:=#[t,t] }) (hs:a.eval s=v) (hx:a.eval x=v2)
  (hrun:(Builtin.append_ #[t,t] o.type #[v,v2]).run P W=.ok v1 w1) (h:Kc (a.put o.dst v1) w1) :
  if Region.wanted o (yielded ops a.tmps)=true then Oper.wpIn F n P o a W Kc Q else(∀f,o.about P W a.eval=some f→F.fn f)∧Kc (a.put o.dst undef) W:=by
 rw[if_pos hw]
 unfold Oper.wpIn
 refine⟨?_,?_⟩
 ·simp[Oper.about,ho,resolve,Target.leads,Sem.run_pure]
 ·rw[Oper.semAt_plain F _ _ (by rw[ho];intro c hc';cases hc')]
  simp[execOp,ho,resolve,invoke,builtin,hs,hx,hrun,Result.andThen]
  exact h
abbrev RU(W:World)(b:Nat)(v:Value)(l:List Int):Prop:=Kd.R (Kd.int .u64) 34 W b (fun _=>True) v l
def Qoy(l:List Ent)(k:Nat):Int:=(Qjf l ((k*16:Nat):Int)).f0
def Qoz(l:List Ent):List Int:=(List.range (chN l.length)).map (Qoy l)
def Mid(lo hi:Nat)(A B:World):Prop:=A.heap.size≤B.heap.size∧∀k,lo≤k→k<hi→B.heap[k]? = A.heap[k]?
theorem Mid.trans{lo hi:Nat}{A B C:World}(h:Mid lo hi A B)(k:Mid lo hi B C):Mid lo hi A C:=⟨Nat.le_trans h.1 k.1,fun i h1 h2=>(k.2 i h1 h2).trans (h.2 i h1 h2)⟩
theorem Mid.cell{lo hi:Nat}{A B:World}(h:Mid lo hi A B){b:Nat}(h1:lo≤b)(h2:b<hi):B.cell? ⟨b,0,none⟩=A.cell? ⟨b,0,none⟩:=by simp[World.cell?,h.2 b h1 h2]
theorem Mid.put{lo hi:Nat}(W:World)(l:Nat)(o':Obj)(h:hi≤l):Mid lo hi W (W.putObj l o'):=by
 refine⟨by simp[World.putObj],fun k _ h2=>?_⟩
 simp only[World.putObj]
 rw[Array.getElem?_setIfInBounds_ne (by omega)]
def Outs(l:List Ent)(g b:Nat)(pre:List Nat)(W:World):Prop:=∃v,W.heap[g]? = some (.cells #[v] 70 (0,0))∧RU W b v (pre.map (fun k=>Qoy l (k%chN l.length)))
theorem Qpa(l:List Ent)(g b:Nat):Own (Outs l g b):=by
 intro s X Y row ⟨v,hv,hR⟩ hg hrow
 refine⟨v,(hg.block g (Qdr hv) (fun e'=>?_)).trans hv,Kd.R_mono (Kd.R_grown (Kd.R_bound hR) hg (fun k hk e'=>?_)) (fun _ _=>trivial)⟩
 ·obtain⟨o,ho,hc⟩:=hrow g e'.symm
  rw[hv]at ho;cases ho;cases hc
 ·obtain⟨o,ho,hc⟩:=hrow k e'.symm
  obtain⟨q,_,cells,hk4⟩:=hk.2.2.2
  rw[hk4]at ho;cases ho;cases hc
theorem ru_put{W:World}{b D:Nat}{v:Value}{xs:List Int}{o o':Obj}(h:RU W b v xs)(hD:W.heap[D]? = some o)(ho:o.isCells=false):RU (W.putObj D o') b v xs:=by
 refine Kd.R_mono (Kd.R_step (Kd.R_bound h) (fun k hk _=>?_)) (fun _ _=>trivial)
 obtain⟨q,_,cells,hk4⟩:=hk.2.2.2
 have hne:D≠k:=by
  intro e
  subst e
  rw[hk4]at hD
  cases hD
  cases ho
 simp only[World.putObj]
 rw[Array.getElem?_setIfInBounds_ne hne]
theorem Qpb (F:Fence) (n:Nat) (h3:F.fn 115) (h4:F.fn 162) (h5:F.fn 204) (hro:F.round=none) (hn:3≤n) (ad:Addr) (c0 m:Nat) (l:List Ent) (w:World) (hmm:m=l.length) (hr0:Kd.C k117 w (some ad) m l) (hc:m≤c0) (hm:m≤1099511627776) :
  CallsIn F n Tryz.prog 115 #[.slice (some ad) m c0] w fun e w'=>(∃v,e=.returned v∧RU w' w.heap.size v (Qoz l))∧Below w.heap.size w w':=by
 have h1:1≤n:=by omega
 have hu:=Tryz.underlying117
 have HMM:=QA hmm
 clear hmm
 refine callsIn_of_wp_marks Tryz.func115 rfl h3 ?_ hro
 simp only[Tryz.ntmps115,List.size_toArray,List.length_cons,List.length_nil,Nat.reduceAdd,Nat.reduceSub,Array.replicate_succ,Array.replicate_zero,List.push_toArray,List.append_toArray,List.nil_append,List.cons_append]
 gi_wp2_with (gi_at_call 162;refine(Qow F (n-1) h4 hro _ _ _ _).mono ?_;rintro e w' ⟨rfl,rfl⟩)
 have hB0:Below w.heap.size w (((w.alloc (.cells #[.slice none 0 0] 70)).alloc (.cells #[.slice (some ad) m c0] 106)).alloc (.cells #[.int .i64 16] 3)):=(((Below.refl _ w).alloc (Nat.le_refl _) _).alloc (by simp) _).alloc (by simp;omega) _
 have b0:=Qee (Qee (Qei w (.cells #[.slice none 0 0] 70)) (.cells #[.slice (some ad) m c0] 106)) (.cells #[.int .i64 16] 3)
 have b1:=Qee (Qei (w.alloc (.cells #[.slice none 0 0] 70)) (.cells #[.slice (some ad) m c0] 106)) (.cells #[.int .i64 16] 3)
 have b2:=Qei ((w.alloc (.cells #[.slice none 0 0] 70)).alloc (.cells #[.slice (some ad) m c0] 106)) (.cells #[.int .i64 16] 3)
 have hsz:(((w.alloc (.cells #[.slice none 0 0] 70)).alloc (.cells #[.slice (some ad) m c0] 106)).alloc (.cells #[.int .i64 16] 3)).heap.size=w.heap.size+3:=by simp
 simp only[World.size_alloc]at b1 b2
 obtain⟨W0,hW0⟩:∃W0,((w.alloc (.cells #[.slice none 0 0] 70)).alloc (.cells #[.slice (some ad) m c0] 106)).alloc (.cells #[.int .i64 16] 3)=W0:=⟨_,rfl⟩
 rw[hW0]at b0 b1 b2 hB0 hsz ⊢
 clear hW0
 have hRn:Outs l w.heap.size W0.heap.size [] W0:=⟨_,b0,Kd.R_nil _ _ _ _ _⟩
 refine wpIn_rangeFunc_ownH hro h1 (gf:=204) (lb:=#[.pointer (some ⟨w.heap.size+1,0,none⟩),.pointer (some ⟨w.heap.size+1+1,0,none⟩)]) rfl h5 (enters_of Tryz.func204 qq_6 rfl)
  (encs:=fun x:Nat=>#[chV ad m (x%chN m)]) (Kp:=Mid (w.heap.size+1) W0.heap.size) (S:=fun ys=>ys=List.range (chN m)) (Sp:=fun pre=>pre <+: List.range (chN m)) (N:=chN m) (w0:=W0)
  (fun l J Jx W hW hJ _ hY h0=>Qov F (n-1) h5 hro (by omega) l (w.heap.size+1) (w.heap.size+1+1) W0.heap.size ad m c0 W0 hc hm rfl (Mid (w.heap.size+1) W0.heap.size) (fun A B b h e=>by rcases e with rfl|rfl<;>exact Mid.cell h (by omega) (by omega)) _ (fun k hk=>by rw[Nat.mod_eq_of_lt hk]) J Jx (fun pre W q hp=>hJ pre W _ none hp ⟨rfl,rfl,rfl,Nat.le_refl _,fun _ _ _=>rfl⟩ (fun r e=>by cases e)) hY W ((Qds b1 0).trans rfl) ((Qds b2 0).trans rfl) hW h0)
  Mid.trans (fun W l o o' h1 _ _ _=>Mid.put W l o' h1) (Below.refl _ _) (fun _=>rfl)
  (fun pre W=>Outs l w.heap.size W0.heap.size pre W∧Below w.heap.size w W∧W0.heap.size≤W.heap.size)
  (fun c pre W=>False)
  (OwnFrom.and (Own.from (Qpa l w.heap.size W0.heap.size) _) (OwnFrom.and (ownFrom_below (by omega) (by omega)) (fun _ _ _ _ h hg _=>Nat.le_trans h hg.size)))
  (fun c=>fun _ _ _ _ h _ _=>h)
  ⟨hRn,hB0,Nat.le_refl _⟩
  (fun x a' W=>a'={ tmps:=#[.slice (some ad) m c0,undef,.slice none 0 0,.pointer (some ⟨w.heap.size,0,none⟩),chV ad m (x%chN m),.slice (some ad) m c0,.func (.func 204) #[] #[.pointer (some ⟨w.heap.size+1,0,none⟩),.pointer (some ⟨w.heap.size+1+1,0,none⟩)],chV ad m (x%chN m),undef,undef,undef,undef,undef,undef,undef,undef],defers:=[] })
  (fun x a'=>fun _ _ _ _ h _ _=>h) ?assign ?body ?done ?stop
 case assign =>
  rintro l' pre x W K ⟨hO,hB,hz⟩ hK
  gi_wp2
  exact hK _ _ ((KeepsOthers.refl _).from _) ⟨Nat.le_refl _,fun _ _ _=>rfl⟩ ⟨hO,hB,hz⟩ rfl
 case body =>
  rintro l' pre x a' W hl ⟨r,hr⟩ ⟨⟨v,hv,hR⟩,hB,hz⟩ rfl hlt
  have hxl:x%chN m<chN m:=Nat.mod_lt _ (by omega)
  obtain⟨y,hy⟩:∃y,y=x%chN m:=⟨_,rfl⟩
  rw[← hy]at hxl ⊢
  have hym:y*16<m:=by unfold chN at hxl;omega
  have hcell:w.cell? (ad.add (y*16*2))=some (.int .u64 (Qoy l y)):=by
   obtain⟨ad',e',x0,_⟩:=Qjg hr0 ((y*16:Nat):Int) (by omega) (by omega)
   cases e'
   rw[Int.toNat_natCast]at x0
   exact x0
  obtain⟨q,hq⟩:∃q,q=ad.add (y*16*2):=⟨_,rfl⟩
  rw[← hq]at hcell
  have hcell':W.cell? q=some (.int .u64 (Qoy l y)):=(hB.cell (World.block_lt_of_cell? w _ hcell)).trans hcell
  obtain⟨e,he⟩:∃e:Nat,e=min 16 (m-y*16):=⟨_,rfl⟩
  have he0:(0:Int)<(e:Int):=by omega
  unfold chV
  rw[← hq,← he]
  have j0:W.cell? ⟨w.heap.size,0,none⟩=some v:=(Qds hv 0).trans rfl
  have f0:=Qdt hv 0
  obtain⟨A,c,rfl⟩:=Kd.R_slice hR
  obtain⟨nn,hnn⟩:∃nn,nn=(pre.map (fun k=>Qoy l (k%chN l.length))).length:=⟨_,rfl⟩
  have hnl:nn=pre.length:=by rw[hnn,List.length_map]
  have hown:W.ownsRow W0.heap.size 34 1 (.slice A nn c) nn (encs (Value.int .u64) (pre.map (fun k=>Qoy l (k%chN l.length)))):=by
   have h:=Kd.own_of_R hR
   rw[← hnn]at h
   exact h
  rw[← hnn]at hv hR j0
  have HNN:=QA hnn
  have HNL:=QA hnl
  clear hnn
  have hown1:(W.drew.alloc (.cells #[.int .u64 (Qoy l y)] 34)).ownsRow W0.heap.size 34 1 (.slice A nn c) nn (encs (Value.int .u64) (pre.map (fun k=>Qoy l (k%chN l.length)))):=Qfi (Qfp hown) _
  obtain⟨i0,hi,hzz⟩:=Option.map_eq_some_iff.1 Qiv
  simp only[Prod.mk.injEq]at hzz
  obtain⟨hz0,hz1,hz2⟩:=hzz
  have hwsz:w.heap.size≤W.drew.heap.size:=hB.size
  have hwsz0:W0.heap.size≤W.drew.heap.size:=hz
  obtain⟨v1,w1,hrun,hown2,hg2,_,hat⟩:=run_append_own_at (P:=Tryz.prog) (W.drew.alloc (.cells #[.int .u64 (Qoy l y)] 34)) W0.heap.size 70 70 34 i0 _ 1 8 Tryz.underlying70 hi hz0 hz1 hz2 rfl (by omega) (.slice A nn c) nn _ hown1 ⟨W.drew.heap.size,0,none⟩ 1 1 [.int .u64 (Qoy l y)] rfl
   (by simpa using World.news_of_block (cs:=#[.int .u64 (Qoy l y)]) (t:=34) (fr:=(0,0)) (heap_alloc_new W.drew (.cells #[.int .u64 (Qoy l y)] 34))) (fun u hu=>by simp at hu;rw[hu];rfl) (by unfold maxLen;unfold chN at hlt;omega) (by unfold chN at hlt;omega) (by rw[World.size_alloc];omega)
  have HY:=QA hy
  have HE:=QA he
  have HQ:=QA hq
  have HI:=QA hi
  have j0b:∀o,(W.alloc o).cell? ⟨w.heap.size,0,none⟩=some (.slice A nn c):=fun o=>(Qds (Qee hv o) 0).trans rfl
  have j0a:∀o,(W.drew.alloc o).cell? ⟨w.heap.size,0,none⟩=some (.slice A nn c):=fun o=>(Qds (Qee (w:=W.drew) hv o) 0).trans rfl
  have he1:0<e:=by omega
  have hvd:=Qee (w:=W.drew) hv (.cells #[.int .u64 (Qoy l y)] 34)
  have hv1:=Qdu hvd hg2 (Kd.R_ne hR hv (by decide))
  have hfw:=Qdt hv1 0
  have hjw:w1.cell? ⟨w.heap.size,0,none⟩=some (.slice A nn c):=(Qds hv1 0).trans rfl
  have hR1:RU w1 W0.heap.size v1 ((pre++[x]).map (fun k=>Qoy l (k%chN l.length))):=by
   have hlen:((pre++[x]).map (fun k=>Qoy l (k%chN l.length))).length=nn+1:=by rw[List.length_map,List.length_append,HNL.out];rfl
   refine Kd.R_of_own ?_ (fun _ _=>trivial)
   rw[hlen,List.map_append,Qdz]
   rw[hy,HMM.out]at hown2
   exact hown2
  obtain⟨A1,c1,rfl⟩:=Kd.R_slice hR1
  have hKo:KeepsOthers W w1:=(((KeepsOthers.drew W).trans (KeepsOthers.alloc _ _)).trans (KeepsOthers.of_grownBy hg2 (fun j o e1 ho=>by
   obtain⟨cells,hcs⟩:=Kd.R_typed hR j e1
   have h2:=Qee (w:=W.drew) hcs (.cells #[.int .u64 (Qoy l y)] 34)
   rw[h2]at ho
   cases ho
   rfl)))
  have hBw1:Below w.heap.size w w1:=(((hB.trans (Qcv (Below.refl _ _))).alloc hwsz _)).grown hg2 (by rw[World.size_alloc];omega) (fun k hk=>Nat.le_trans hB0.size (Kd.R_base hR k hk))
  have hMid:Mid (w.heap.size+1) W0.heap.size W w1:=by
   refine⟨Nat.le_trans (by rw[World.size_alloc];exact Nat.le_succ _) hg2.size,fun k h1 h2=>?_⟩
   have h3:=hg2.block k (by rw[World.size_alloc];omega) (fun e'=>by have:=Kd.R_base hR k e'.symm;omega)
   rw[h3]
   exact Below.heap_alloc W.drew _ k (by omega)
  have hsc:∀u,(w1.setCell ⟨w.heap.size,0,none⟩ u).heap.size=w1.heap.size:=fun u=>by simp[World.setCell]
  have hzw:W0.heap.size≤w1.heap.size:=Nat.le_trans hz hMid.1
  have HR1:=QA hR1
  have HV1:=QA hv1
  clear hR1 hv1 hvd
  have hmo:Tryz.prog.follows .mixedOrders=true:=by kernel_rfl
  clear hnl hy he hq hi hz0 hz1 hz2 hown hown1
  gi_wp2_with fail
  refine wpIn_region_any hmo ?_
  change wpAnyIn _ _ _ _ _ _ _ _ _ (World.drew _)
  refine wpAnyIn_ready (rs:=[0,1]) qq_6 (by simp) ?_
  refine AllReadyIn.cons rfl (fun K hK=>?_) ?_
  ·go_simp
   refine hK _ _ ?_
   clear hK K
   refine wpAnyIn_ready (rs:=[1]) qq_6 (by simp) ?_
   refine AllReadyIn.cons rfl (fun K hK=>?_) ?_
   ·go_simp
    refine hK _ _ ?_
    clear hK K
    refine wpAnyIn_ready (rs:=[2]) qq_6 (by simp) ?_
    refine AllReadyIn.cons rfl (fun K hK=>?_) ?_
    ·go_simp
     refine hK _ _ ?_
     clear hK K
     refine wpAnyIn_ready (rs:=[3]) qq_6 (by simp) ?_
     refine AllReadyIn.cons rfl (fun K hK=>?_) ?_
     ·go_simp
      refine hK _ _ ?_
      clear hK K
      refine wpAnyIn_ready (rs:=[4]) qq_6 (by simp) ?_
      refine AllReadyIn.cons rfl (fun K hK=>?_) ?_
      ·go_simp
       refine hK _ _ ?_
       clear hK K
       refine wpAnyIn_ready (rs:=[5]) qq_6 (by simp) ?_
       refine AllReadyIn.cons rfl (fun K hK=>?_) ?_
       ·go_simp
        refine hK _ _ ?_
        clear hK K
        refine wpAnyIn_ready (rs:=[6]) qq_6 (by simp) ?_
        refine AllReadyIn.cons rfl (fun K hK=>?_) AllReadyIn.nil
        refine Qox (s:=.tmp 8) (x:=.tmp 13) (t:=70) (by rfl) rfl rfl rfl hrun ?_
        go_simp
        refine hK _ _ ?_
        clear hK K
        refine wpAnyIn_ready (rs:=[7]) qq_6 (by simp) ?_
        refine AllReadyIn.cons rfl (fun K hK=>?_) AllReadyIn.nil
        go_simp
        refine hK _ _ ?_
        clear hK K
        refine wpAnyIn_done qq_6 ?_ _
        refine⟨(hKo.trans (KeepsOthers.setCell _ _ _)).from _,⟨by rw[hsc];exact hMid.1,fun k h1 h2=>?_⟩,⟨_,Qdp HV1.out 0 _,?_⟩,Qjm hBw1 (Nat.le_refl _),by rw[hsc];exact hzw⟩
        ·rw[Below.heap_setCell _ _ _ k (by show k≠w.heap.size;omega)]
         exact hMid.2 k h1 h2
        ·have h:=Kd.R_set HR1.out HV1.out (by decide) 0 (.slice A1 (pre.length+1) c1)
         simp only[List.length_map,List.length_append,List.length_cons,List.length_nil,Nat.zero_add]at h
         exact h
       exact AllReadyIn.nil
      exact AllReadyIn.nil
     exact AllReadyIn.nil
    exact AllReadyIn.nil
   exact AllReadyIn.nil
  refine AllReadyIn.cons rfl (fun K hK=>?_) ?_
  ·go_simp
   refine hK _ _ ?_
   clear hK K
   refine wpAnyIn_ready (rs:=[0,2]) qq_6 (by simp) ?_
   refine AllReadyIn.cons rfl (fun K hK=>?_) ?_
   ·go_simp
    refine hK _ _ ?_
    clear hK K
    refine wpAnyIn_ready (rs:=[2]) qq_6 (by simp) ?_
    refine AllReadyIn.cons rfl (fun K hK=>?_) ?_
    ·go_simp
     refine hK _ _ ?_
     clear hK K
     refine wpAnyIn_ready (rs:=[3]) qq_6 (by simp) ?_
     refine AllReadyIn.cons rfl (fun K hK=>?_) ?_
     ·go_simp
      refine hK _ _ ?_
      clear hK K
      refine wpAnyIn_ready (rs:=[4]) qq_6 (by simp) ?_
      refine AllReadyIn.cons rfl (fun K hK=>?_) ?_
      ·go_simp
       refine hK _ _ ?_
       clear hK K
       refine wpAnyIn_ready (rs:=[5]) qq_6 (by simp) ?_
       refine AllReadyIn.cons rfl (fun K hK=>?_) ?_
       ·go_simp
        refine hK _ _ ?_
        clear hK K
        refine wpAnyIn_ready (rs:=[6]) qq_6 (by simp) ?_
        refine AllReadyIn.cons rfl (fun K hK=>?_) AllReadyIn.nil
        refine Qox (s:=.tmp 8) (x:=.tmp 13) (t:=70) (by rfl) rfl rfl rfl hrun ?_
        go_simp
        refine hK _ _ ?_
        clear hK K
        refine wpAnyIn_ready (rs:=[7]) qq_6 (by simp) ?_
        refine AllReadyIn.cons rfl (fun K hK=>?_) AllReadyIn.nil
        go_simp
        refine hK _ _ ?_
        clear hK K
        refine wpAnyIn_done qq_6 ?_ _
        refine⟨(hKo.trans (KeepsOthers.setCell _ _ _)).from _,⟨by rw[hsc];exact hMid.1,fun k h1 h2=>?_⟩,⟨_,Qdp HV1.out 0 _,?_⟩,Qjm hBw1 (Nat.le_refl _),by rw[hsc];exact hzw⟩
        ·rw[Below.heap_setCell _ _ _ k (by show k≠w.heap.size;omega)]
         exact hMid.2 k h1 h2
        ·have h:=Kd.R_set HR1.out HV1.out (by decide) 0 (.slice A1 (pre.length+1) c1)
         simp only[List.length_map,List.length_append,List.length_cons,List.length_nil,Nat.zero_add]at h
         exact h
       exact AllReadyIn.nil
      exact AllReadyIn.nil
     exact AllReadyIn.nil
    exact AllReadyIn.nil
   refine AllReadyIn.cons rfl (fun K hK=>?_) ?_
   ·go_simp
    refine hK _ _ ?_
    clear hK K
    refine wpAnyIn_ready (rs:=[0,3]) qq_6 (by simp) ?_
    refine AllReadyIn.cons rfl (fun K hK=>?_) ?_
    ·go_simp
     refine hK _ _ ?_
     clear hK K
     refine wpAnyIn_ready (rs:=[3]) qq_6 (by simp) ?_
     refine AllReadyIn.cons rfl (fun K hK=>?_) ?_
     ·go_simp
      refine hK _ _ ?_
      clear hK K
      refine wpAnyIn_ready (rs:=[4]) qq_6 (by simp) ?_
      refine AllReadyIn.cons rfl (fun K hK=>?_) ?_
      ·go_simp
       refine hK _ _ ?_
       clear hK K
       refine wpAnyIn_ready (rs:=[5]) qq_6 (by simp) ?_
       refine AllReadyIn.cons rfl (fun K hK=>?_) ?_
       ·go_simp
        refine hK _ _ ?_
        clear hK K
        refine wpAnyIn_ready (rs:=[6]) qq_6 (by simp) ?_
        refine AllReadyIn.cons rfl (fun K hK=>?_) AllReadyIn.nil
        refine Qox (s:=.tmp 8) (x:=.tmp 13) (t:=70) (by rfl) rfl rfl rfl hrun ?_
        go_simp
        refine hK _ _ ?_
        clear hK K
        refine wpAnyIn_ready (rs:=[7]) qq_6 (by simp) ?_
        refine AllReadyIn.cons rfl (fun K hK=>?_) AllReadyIn.nil
        go_simp
        refine hK _ _ ?_
        clear hK K
        refine wpAnyIn_done qq_6 ?_ _
        refine⟨(hKo.trans (KeepsOthers.setCell _ _ _)).from _,⟨by rw[hsc];exact hMid.1,fun k h1 h2=>?_⟩,⟨_,Qdp HV1.out 0 _,?_⟩,Qjm hBw1 (Nat.le_refl _),by rw[hsc];exact hzw⟩
        ·rw[Below.heap_setCell _ _ _ k (by show k≠w.heap.size;omega)]
         exact hMid.2 k h1 h2
        ·have h:=Kd.R_set HR1.out HV1.out (by decide) 0 (.slice A1 (pre.length+1) c1)
         simp only[List.length_map,List.length_append,List.length_cons,List.length_nil,Nat.zero_add]at h
         exact h
       exact AllReadyIn.nil
      exact AllReadyIn.nil
     exact AllReadyIn.nil
    refine AllReadyIn.cons rfl (fun K hK=>?_) ?_
    ·go_simp
     refine hK _ _ ?_
     clear hK K
     refine wpAnyIn_ready (rs:=[0,4]) qq_6 (by simp) ?_
     refine AllReadyIn.cons rfl (fun K hK=>?_) ?_
     ·go_simp
      refine hK _ _ ?_
      clear hK K
      refine wpAnyIn_ready (rs:=[4]) qq_6 (by simp) ?_
      refine AllReadyIn.cons rfl (fun K hK=>?_) ?_
      ·go_simp
       refine hK _ _ ?_
       clear hK K
       refine wpAnyIn_ready (rs:=[5]) qq_6 (by simp) ?_
       refine AllReadyIn.cons rfl (fun K hK=>?_) ?_
       ·go_simp
        refine hK _ _ ?_
        clear hK K
        refine wpAnyIn_ready (rs:=[6]) qq_6 (by simp) ?_
        refine AllReadyIn.cons rfl (fun K hK=>?_) AllReadyIn.nil
        refine Qox (s:=.tmp 8) (x:=.tmp 13) (t:=70) (by rfl) rfl rfl rfl hrun ?_
        go_simp
        refine hK _ _ ?_
        clear hK K
        refine wpAnyIn_ready (rs:=[7]) qq_6 (by simp) ?_
        refine AllReadyIn.cons rfl (fun K hK=>?_) AllReadyIn.nil
        go_simp
        refine hK _ _ ?_
        clear hK K
        refine wpAnyIn_done qq_6 ?_ _
        refine⟨(hKo.trans (KeepsOthers.setCell _ _ _)).from _,⟨by rw[hsc];exact hMid.1,fun k h1 h2=>?_⟩,⟨_,Qdp HV1.out 0 _,?_⟩,Qjm hBw1 (Nat.le_refl _),by rw[hsc];exact hzw⟩
        ·rw[Below.heap_setCell _ _ _ k (by show k≠w.heap.size;omega)]
         exact hMid.2 k h1 h2
        ·have h:=Kd.R_set HR1.out HV1.out (by decide) 0 (.slice A1 (pre.length+1) c1)
         simp only[List.length_map,List.length_append,List.length_cons,List.length_nil,Nat.zero_add]at h
         exact h
       exact AllReadyIn.nil
      exact AllReadyIn.nil
     refine AllReadyIn.cons rfl (fun K hK=>?_) ?_
     ·go_simp
      refine hK _ _ ?_
      clear hK K
      refine wpAnyIn_ready (rs:=[0,5]) qq_6 (by simp) ?_
      refine AllReadyIn.cons rfl (fun K hK=>?_) ?_
      ·go_simp
       refine hK _ _ ?_
       clear hK K
       refine wpAnyIn_ready (rs:=[5]) qq_6 (by simp) ?_
       refine AllReadyIn.cons rfl (fun K hK=>?_) ?_
       ·go_simp
        refine hK _ _ ?_
        clear hK K
        refine wpAnyIn_ready (rs:=[6]) qq_6 (by simp) ?_
        refine AllReadyIn.cons rfl (fun K hK=>?_) AllReadyIn.nil
        refine Qox (s:=.tmp 8) (x:=.tmp 13) (t:=70) (by rfl) rfl rfl rfl hrun ?_
        go_simp
        refine hK _ _ ?_
        clear hK K
        refine wpAnyIn_ready (rs:=[7]) qq_6 (by simp) ?_
        refine AllReadyIn.cons rfl (fun K hK=>?_) AllReadyIn.nil
        go_simp
        refine hK _ _ ?_
        clear hK K
        refine wpAnyIn_done qq_6 ?_ _
        refine⟨(hKo.trans (KeepsOthers.setCell _ _ _)).from _,⟨by rw[hsc];exact hMid.1,fun k h1 h2=>?_⟩,⟨_,Qdp HV1.out 0 _,?_⟩,Qjm hBw1 (Nat.le_refl _),by rw[hsc];exact hzw⟩
        ·rw[Below.heap_setCell _ _ _ k (by show k≠w.heap.size;omega)]
         exact hMid.2 k h1 h2
        ·have h:=Kd.R_set HR1.out HV1.out (by decide) 0 (.slice A1 (pre.length+1) c1)
         simp only[List.length_map,List.length_append,List.length_cons,List.length_nil,Nat.zero_add]at h
         exact h
       exact AllReadyIn.nil
      refine AllReadyIn.cons rfl (fun K hK=>?_) ?_
      ·go_simp
       refine hK _ _ ?_
       clear hK K
       refine wpAnyIn_ready (rs:=[0]) qq_6 (by simp) ?_
       refine AllReadyIn.cons rfl (fun K hK=>?_) ?_
       ·go_simp
        refine hK _ _ ?_
        clear hK K
        refine wpAnyIn_ready (rs:=[6]) qq_6 (by simp) ?_
        refine AllReadyIn.cons rfl (fun K hK=>?_) AllReadyIn.nil
        refine Qox (s:=.tmp 8) (x:=.tmp 13) (t:=70) (by rfl) rfl rfl rfl hrun ?_
        go_simp
        refine hK _ _ ?_
        clear hK K
        refine wpAnyIn_ready (rs:=[7]) qq_6 (by simp) ?_
        refine AllReadyIn.cons rfl (fun K hK=>?_) AllReadyIn.nil
        go_simp
        refine hK _ _ ?_
        clear hK K
        refine wpAnyIn_done qq_6 ?_ _
        refine⟨(hKo.trans (KeepsOthers.setCell _ _ _)).from _,⟨by rw[hsc];exact hMid.1,fun k h1 h2=>?_⟩,⟨_,Qdp HV1.out 0 _,?_⟩,Qjm hBw1 (Nat.le_refl _),by rw[hsc];exact hzw⟩
        ·rw[Below.heap_setCell _ _ _ k (by show k≠w.heap.size;omega)]
         exact hMid.2 k h1 h2
        ·have h:=Kd.R_set HR1.out HV1.out (by decide) 0 (.slice A1 (pre.length+1) c1)
         simp only[List.length_map,List.length_append,List.length_cons,List.length_nil,Nat.zero_add]at h
         exact h
       exact AllReadyIn.nil
      exact AllReadyIn.nil
     exact AllReadyIn.nil
    exact AllReadyIn.nil
   exact AllReadyIn.nil
  exact AllReadyIn.nil
 case done =>
  rintro D ys W hD rfl ⟨⟨v,hv,hR⟩,hB,hz⟩ hK
  obtain⟨A,c,rfl⟩:=Kd.R_slice hR
  have j0:W.cell? ⟨w.heap.size,0,none⟩=_:=(Qds hv 0).trans rfl
  gi_wp2
  refine⟨by simp,.inl ⟨_,_,rfl,run_takeDeferred hK,?_⟩⟩
  have hlen:(List.map (fun k=>Qoy l (k%chN l.length)) (List.range (chN m))).length=chN m:=by simp
  rw[hlen]at hR
  have hfl:List.map (fun k=>Qoy l (k%chN l.length)) (List.range (chN m))=Qoz l:=by
   rw[HMM.out]
   unfold Qoz
   apply List.map_congr_left
   intro k hk
   rw[Nat.mod_eq_of_lt (List.mem_range.1 hk)]
  rw[hfl]at hR
  refine⟨.slice A (chN m) c,by simp[results,Tryz.f115,go_sem],⟨_,rfl,?_⟩,hB.trans (belowK_b (w:=w) (Nat.le_refl _) _ D _ _ (by omega) hK rfl rfl)⟩
  refine Kd.R_lower (ru_put hR hK rfl) hB0.size
 case stop =>
  rintro D c pre W hD hpre hf
  exact hf.elim
theorem Qpc(ad:Addr)(c0 m:Nat)(l:List Ent)(w:World)(hmm:m=l.length)(hr0:Kd.C k117 w (some ad) m l)(hc:m≤c0)(hm:m≤1099511627776) :
  Calls Tryz.prog 115 #[.slice (some ad) m c0] w fun e w'=>(∃v,e=.returned v∧RU w' w.heap.size v (Qoz l))∧Below w.heap.size w w' :=
 (callsIn_wide (n:=3)).1 (Qpb Fence.wide 3 trivial trivial trivial rfl (by omega) ad c0 m l w hmm hr0 hc hm)
end Go.Proofs.YtnnofopfbeklbaaGreat.C
end
section
namespace Go.Proofs.YtnnofopfbeklbaaGreat.C
open Go.RowKit Go.Proofs.YtnnofopfbeklbaaGreatW.PrintWords Go.Proofs.YtnnofopfbeklbaaGreatW.PrintLast Go.Proofs.YtnnofopfbeklbaaGreatW.PrintMore
open Go.Sort
attribute [local go_sem high] Qpd
def encE(x:Ent):List Value:=[.int .u64 x.f0,.int .u32 x.f1]
def Qpe(l:List Ent):List Value:=l.flatMap encE
abbrev RE(W:World)(b:Nat)(v:Value)(l:List Ent):Prop:=Kd.R k117 117 W b (fun _=>True) v l
theorem Qpf(l:List Ent):(Qpe l).length=l.length*2:=by
 induction l with
 | nil=>rfl
 | cons a l ih=>simp only[Qpe,List.flatMap_cons,List.length_append,encE,List.length_cons,List.length_nil]at ih ⊢;omega
theorem Qpg:∀(l:List Ent) (j:Nat) (h:j<l.length),((Qpe l).drop (j*2)).take 2=encE l[j]
 | a :: l,0,_=>rfl
 | a :: l,j+1,h=>by
  have:=Qpg l j (by simpa using h)
  rw[show(j+1)*2=j*2+2 by omega]
  exact this
theorem Qph(l:List Ent)(j:Nat):(Qpe l)[2*j]? = l[j]?.map (fun x=>Value.int .u64 x.f0)∧(Qpe l)[2*j+1]? = l[j]?.map (fun x=>Value.int .u32 x.f1):=by
 induction l generalizing j with
 | nil=>simp[Qpe]
 | cons a l ih =>
  cases j with
  | zero=>simp[Qpe,encE]
  | succ j =>
   have:=ih j
   rw[show 2*(j+1)=2*j+2 by omega]
   exact this
theorem repsE{R:Ent→List Value→Prop}(hR:∀x,R x (encE x))(l:List Ent):Reps R 2 l (Qpe l):=by
 refine⟨Qpf l,fun j p hj=>?_⟩
 obtain⟨h,rfl⟩:=List.getElem?_eq_some_iff.1 hj
 rw[Qpg l j h]
 exact hR _
theorem Qpi{R:Ent→List Value→Prop}(hR:∀x c,R x c→c=encE x){l:List Ent}{cs:List Value}(h:Reps R 2 l cs):cs=Qpe l:=by
 have hl:cs.length=l.length*2:=h.1
 apply List.ext_getElem?
 intro t
 by_cases ht:t<l.length*2
 ·have hj:t/2<l.length:=by omega
  have h1:=hR _ _ (h.2 (t/2) _ (List.getElem?_eq_getElem hj))
  have h2:=Qpg l (t/2) hj
  rw[← h1]at h2
  have e:∀xs:List Value,((xs.drop (t/2*2)).take 2)[t%2]? = xs[t]?:=by
   intro xs
   rw[List.getElem?_take,if_pos (Nat.mod_lt _ (by omega)),List.getElem?_drop]
   congr 1
   omega
  rw[← e cs,← e (Qpe l),h2]
 ·rw[List.getElem?_eq_none (by omega),List.getElem?_eq_none (by rw[Qpf];omega)]
theorem RE.of_own{W:World}{b:Nat}{v:Value}{l:List Ent}(h:W.ownsRow b 117 2 v l.length (Qpe l)):RE W b v l :=
 ⟨fun _ _=>trivial,Qpe l,h,repsE (fun x=>Qje _ _ _ x) l⟩
theorem RE.own{W:World}{b:Nat}{v:Value}{l:List Ent}(h:RE W b v l):W.ownsRow b 117 2 v l.length (Qpe l):=by
 obtain⟨_,inner,ho,hr⟩:=h
 have e:=Qpi (fun x c hM=>Qjd hM) hr
 rw[← e]
 exact ho
def Qpj(l:List Ent):List Ent:=l.mergeSort (fun x y=>!(ltOf cfE) y x)
theorem Qpk(l:List Ent):(Qpj l).length=l.length:=List.length_mergeSort _
theorem Qpl(x y:Ent):ltOf cfE x y=(decide (x.f0<y.f0) ||(decide (x.f0=y.f0) && decide (x.f1<y.f1))):=by
 unfold ltOf cfE
 by_cases h1:x.f0<y.f0
 ·simp[h1]
 ·by_cases h2:y.f0<x.f0
  ·have:x.f0≠y.f0:=by omega
   simp[h1,h2,this]
  ·have:x.f0=y.f0:=by omega
   by_cases h3:x.f1<y.f1
   ·simp[h1,h2,h3,this]
   ·by_cases h4:y.f1<x.f1<;>simp[h1,h2,h3,h4,this]
theorem swoE:SWO (ltOf cfE) where
 irrefl x:=by rw[Qpl];simp
 trans x y z h1 h2:=by rw[Qpl]at *;simp at *;omega
 ntrans x y z h1 h2:=by rw[Qpl]at *;simp at *;omega
theorem totE(x y:Ent)(h1:ltOf cfE x y=false)(h2:ltOf cfE y x=false):x=y:=by
 rw[Qpl]at h1 h2
 simp at h1 h2
 cases x;cases y
 simp_all
 omega
instance:Inhabited Ent:=⟨⟨0,0⟩⟩
theorem Qpm(blk off size:Nat)(w:World):CmpLays Tryz.prog 118 #[] encE 2 cfE blk off size w :=
 fun _ _ _ _ x y=>cmp_gr x y _
theorem Qpn(l:List Ent):(flatK encE 2 l.toArray).toList=Qpe l:=by
 apply List.ext_getElem?
 intro t
 have hs:(flatK encE 2 l.toArray).size=l.length*2:=by simp
 by_cases ht:t<l.length*2
 ·rw[Array.getElem?_toList,Array.getElem?_eq_getElem (by rw[hs];exact ht)]
  have h1:=get_flatK encE 2 l.toArray t (by simpa using ht)
  rw[getElem!_pos (flatK encE 2 l.toArray) t (by rw[hs];exact ht)]at h1
  have hj:t/2<l.length:=by omega
  have hx:l.toArray[t/2]! = l[t/2]:=by rw[getElem!_pos l.toArray (t/2) (by simpa using hj)];simp
  rw[h1,hx]
  have h2:=Qph l (t/2)
  rw[List.getElem?_eq_getElem hj]at h2
  rcases Nat.mod_two_eq_zero_or_one t with h0|h0
  ·have h3:=h2.1
   rw[show 2*(t/2)=t by omega]at h3
   rw[h0,h3]
   rfl
  ·have h3:=h2.2
   rw[show 2*(t/2)+1=t by omega]at h3
   rw[h0,h3]
   rfl
 ·rw[List.getElem?_eq_none (by simp;omega),List.getElem?_eq_none (by rw[Qpf];omega)]
theorem Qpo{W:World}{b g cap:Nat}{l:List Ent}(h:W.ownsRow b 117 2 (.slice (some ⟨g,0,none⟩) l.length cap) l.length (Qpe l)):HoldsK encE 2 W g 0 l.toArray:=by
 rcases h.2 with⟨hn,_⟩ |⟨g',cap',cur,he,hb,hh,h1,h2,h3,h4⟩
 ·cases hn
 cases he
 intro j hj
 have hj':j<l.length*2:=by simpa using hj
 refine⟨?_,by simp[World.frozen?,hh]⟩
 have h5:(cur.toList.take (l.length*2))[j]? = (Qpe l)[j]?:=by rw[h4]
 rw[List.getElem?_take_of_lt hj']at h5
 simp only[World.cell?,hh,Nat.zero_add]
 simp only[Option.isSome_none,Bool.false_eq_true,if_false]
 rw[← Array.getElem?_toList,h5,← Qpn l,Array.getElem?_toList,Array.getElem?_eq_getElem hj,getElem!_pos (flatK encE 2 l.toArray) j hj]
 rfl
theorem heapE{w:World}{g n:Nat}{os:Array Obj}{cur:Array Value}{e:TypeId}{fr:Nat × Nat}(d:Array Ent)(hb:w.heap[g]? = some (.cells cur e fr)) :
  (sortWorldK encE 2 w g 0 n d os).heap[g]? = some (.cells (putCells id 0 (flatK encE 2 d) cur) e fr):=by
 have hg:g<w.heap.size:=(Array.getElem?_eq_some_iff.1 hb).1
 unfold sortWorldK putRowK
 rw[heap_grow_old _ _ (by simpa using hg)]
 simp[putRow,mapBlock,Sort.ahead,Array.getElem?_modify,hb,onCells]
theorem grownE{w:World}{g n:Nat}{os:Array Obj}(d:Array Ent):w.grownBy (sortWorldK encE 2 w g 0 n d os) (some g):=by
 unfold sortWorldK putRowK
 refine⟨rfl,rfl,rfl,by simp,fun k hk hne=>?_⟩
 rw[heap_grow_old _ _ (by simpa using hk)]
 have:g≠k:=fun e=>hne (by rw[e])
 simp[putRow,mapBlock,Sort.ahead,Array.getElem?_modify,this]
theorem takeE(cur:Array Value)(l:List Ent)(h:l.length*2≤cur.size):(putCells id 0 (flatK encE 2 l.toArray) cur).toList.take (l.length*2)=Qpe l:=by
 apply List.ext_getElem?
 intro j
 by_cases hj:j<l.length*2
 ·rw[List.getElem?_take_of_lt hj,Array.getElem?_toList,← Qpn l,Array.getElem?_toList]
  have hs:(flatK encE 2 l.toArray).size=l.length*2:=by simp
  rw[Array.getElem?_eq_getElem (xs:=flatK encE 2 l.toArray) (by rw[hs];exact hj)]
  simp only[putCells,Array.getElem?_mapIdx,Nat.zero_le,true_and,Nat.zero_add,hs,hj,if_true,Nat.sub_zero,id]
  rw[Array.getElem?_eq_getElem (xs:=cur) (by omega),getElem!_pos (flatK encE 2 l.toArray) j (by rw[hs];exact hj)]
  rfl
 ·rw[List.getElem?_take_eq_none (by omega),List.getElem?_eq_none (by rw[Qpf];omega)]
theorem Qpp{w:World}{b g cap n:Nat}{os:Array Obj}{l m:List Ent}(hl:m.length=l.length)(h:w.ownsRow b 117 2 (.slice (some ⟨g,0,none⟩) l.length cap) l.length (Qpe l)) :
  (sortWorldK encE 2 w g 0 n m.toArray os).ownsRow b 117 2 (.slice (some ⟨g,0,none⟩) l.length cap) l.length (Qpe m):=by
 rcases h.2 with⟨hn,_⟩ |⟨g',cap',cur,he,hb,hh,h1,h2,h3,h4⟩
 ·cases hn
 cases he
 exact⟨by rw[Qpf,hl],.inr ⟨g,cap,_,rfl,hb,heapE _ hh,h1,h2,by simp[putCells,h3],by rw[← hl];exact takeE cur m (by omega)⟩⟩
theorem Qpq(b:Nat)(v:Value)(l:List Ent)(w:World)(hR:RE w b v l)(hl:l.length≤1099511627776) :
  Calls Tryz.prog 116 #[v] w fun e w'=>∃v1,e=.returned v1∧RE w' w.heap.size v1 l∧Below w.heap.size w w':=by
 have ho:=RE.own hR
 rcases ho.2 with⟨rfl,hn⟩ |⟨g,cap,cur,rfl,hb,hh,h1,h2,h3,h4⟩
 ·have hcon:=AnyE.slices_Clone_nil Tryz.cloneEnt 0 0 w
  refine hcon.mono fun e w' ⟨he,hw⟩=>⟨_,he,?_,?_⟩
  ·have h0:l=[]:=List.eq_nil_of_length_eq_zero (by omega)
   rw[h0]
   exact Kd.R_nil _ _ _ _ _
  ·rw[hw];exact Below.refl _ _
 ·obtain⟨i0,hi,hzz⟩:=Option.map_eq_some_iff.1 Qoo
  simp only[Prod.mk.injEq]at hzz
  obtain⟨hz0,hz1,hz2⟩:=hzz
  have hcon:=AnyE.slices_Clone Tryz.cloneEnt i0 _ 2 16 hi hz0 hz1 hz2 rfl (by omega) Tryz.sizeOf117 g 0 l.length cap (Qpe l) w (Qpf l) (by unfold maxLen;omega) (by omega) (fun j u hj=>by
    have hj':j<l.length*2:=by
     have:=(List.getElem?_eq_some_iff.1 hj).1
     rw[Qpf]at this
     exact this
    have h5:(cur.toList.take (l.length*2))[j]? = (Qpe l)[j]?:=by rw[h4]
    rw[List.getElem?_take_of_lt hj']at h5
    simp only[World.cell?,hh,Nat.zero_add]
    simp only[Option.isSome_none,Bool.false_eq_true,if_false]
    rw[← Array.getElem?_toList,h5,hj]) (fun u hu=>by
    obtain⟨x,_,hx⟩:=List.mem_flatMap.1 hu
    simp[encE]at hx
    rcases hx with rfl|rfl<;>rfl)
  exact hcon.mono fun e w' ⟨v',he,hown,_,hb'⟩=>⟨v',he,RE.of_own hown,hb'⟩
def Apart(l:List Ent):Prop:=∀i:Nat,i+1<l.length→(Qjf l ((i+1:Nat):Int)).f0≠(Qjf l (i:Int)).f0∨(Qjf l ((i+1:Nat):Int)).f1≠(Qjf l (i:Int)).f1
theorem Qpr(A:Option Addr)(n c:Nat)(l:List Ent)(w:World)(hn:n=l.length)(hC:Kd.C k117 w A n l)(hA:Apart l)(hl:l.length≤1099511627776) :
  Calls Tryz.prog 119 #[.slice A n c] w fun e w'=>e=.returned (.slice A n c)∧Drawn0 w w':=by
 have hu:=Tryz.underlying117
 have HN:=QA hn
 have HL:n≤1099511627776:=by omega
 have HC:=QA hC
 have HA:=QA hA
 clear hn hC hA hl
 by_cases h2:n<2
 ·have hb:decide ((n:Int)<2)=true:=decide_eq_true (by omega)
  go_enter Tryz.func119,Tryz.ntmps119
  go_wp2
  go_ret
  exact⟨rfl,Drawn0.refl _⟩
 ·have hb:decide ((n:Int)<2)=false:=decide_eq_false (by omega)
  go_enter Tryz.func119,Tryz.ntmps119
  go_wp2
  go_loopw [3] (fun i wr=>∃(k:Nat) (iv:Int),1≤k∧k≤n∧i=.int .i64 iv∧Aside0 (iv=(k:Int))∧Drawn0 w wr) (fun i _=>((n:Int)-intOf i).toNat)
  case atStart=>exact⟨1,1,by omega,by omega,rfl,⟨rfl⟩,Drawn0.refl _⟩
  case round =>
   obtain⟨k,iv,hk1,hkn,rfl,HI,⟨m1,rfl⟩⟩:=hrel
   by_cases hlt:k<n
   ·have h0:0≤iv:=by have:=HI.out;omega
    have h1:iv<(n:Int):=by have:=HI.out;omega
    obtain⟨jv,hjv⟩:∃jv,jv=iv-1:=⟨_,rfl⟩
    have hm:0≤jv:=by have:=HI.out;omega
    have hm1:jv<(n:Int):=by omega
    have hb1:decide (iv<(n:Int))=true:=decide_eq_true h1
    obtain⟨ad,rfl,x0,x1⟩:=Qjg HC.out iv h0 h1
    obtain⟨ad',e',y0,y1⟩:=Qjg HC.out jv hm hm1
    cases e'
    have hne:((Qjf l iv).f0 == (Qjf l jv).f0 && ((Qjf l iv).f1 == (Qjf l jv).f1))=false:=by
     have h:=HA.out (k-1) qq_16
     rw[show k-1+1=k by omega,show((k-1:Nat):Int)=jv by(have:=HI.out;omega),← HI.out]at h
     rcases h with h|h<;>simp[h]
    have hwr:IntKind.i64.wrap (iv-1)=jv:=by rw[IntWalk.i64_in _ (by omega)];exact hjv.symm
    have HJ:=QA hjv
    clear hjv
    go_wp2
    go_quiet (fail)
    clear hwr
    go_wp2
    go_roundw
    case rel=>exact⟨k+1,iv+1,by omega,by omega,by go_num,⟨by have:=HI.out;omega⟩,by repeat(first|exact Drawn0.refl _|apply Drawn0.step)⟩
    case measure=>simp[intOf];omega
   ·have hge:¬iv<(n:Int):=by have:=HI.out;omega
    have hb1:decide (iv<(n:Int))=false:=decide_eq_false hge
    go_wp2
    go_ret
    exact⟨rfl,by repeat(first|exact Drawn0.refl _|apply Drawn0.step)⟩
theorem Qps(b:Nat)(v:Value)(l:List Ent)(w:World)(hR:RE w b v l)(hl:l.length≤1099511627776) :
  Calls Tryz.prog 117 #[v,.func (.func 118) #[] #[]] w fun e w'=>e=.returned (.tuple #[])∧RE w' b v (Qpj l)∧w.grownBy w' v.ownBlock:=by
 have ho:=RE.own hR
 rcases ho.2 with⟨rfl,hn⟩ |⟨g,cap,cur,rfl,hb,hh,h1,h2,h3,h4⟩
 ·have hcon:=AnyF.slices_SortFunc_none (P:=Tryz.prog) (ρ:=Tryz.sortEnt_ren) { Tryz.sortEnt with } none 0 (.func (.func 118) #[] #[]) w
  refine hcon.mono fun e w' ⟨he,hw⟩=>⟨he,?_,?_⟩
  ·have h0:l=[]:=List.eq_nil_of_length_eq_zero (by omega)
   rw[h0,show Qpj []=[] from List.eq_nil_of_length_eq_zero (Qpk [])]
   exact Kd.R_nil _ _ _ _ _
  ·rw[hw];exact World.grownBy.refl w _
 ·have eg:∀args w,(callFunc 118 args).run Tryz.prog w=.ok (.enter 118 args) w:=enters_of Tryz.func118 qq_6 rfl
  have hcon:=AnyQ.slices_SortFunc_total Tryz.sortEnt 2 Tryz.isAgg117 Tryz.sizeOf117 encE (fun _=>rfl) (fun x v hv=>by simp[encE]at hv;rcases hv with rfl|rfl<;>rfl) cfE swoE 118 #[] g 0 cap l.toArray w eg (Qpm g 0 l.toArray.size w) (Qpo ho) (Qdr hh) (by simp;omega) totE
  refine hcon.mono fun e w' ⟨he,n,os,hw⟩=>⟨he,?_,?_⟩
  ·rw[hw]
   have hs:=Qpp (n:=n) (os:=os) (m:=Qpj l) (Qpk l) ho
   rw[← Qpk l]at hs
   have:=RE.of_own hs
   rw[Qpk l]at this
   exact this
  ·rw[hw]
   exact grownE _
theorem Qpt(l:List Ent):(Qpj l).Perm l:=List.mergeSort_perm _ _
theorem Qpu{l:List Ent}(h:l.Nodup):Apart (Qpj l):=by
 have hd:(Qpj l).Nodup:=(Qpt l).nodup_iff.2 h
 intro i hi
 have e1:Qjf (Qpj l) ((i+1:Nat):Int)=(Qpj l)[i+1]:=by simp[Qjf,List.getElem?_eq_getElem hi]
 have e2:Qjf (Qpj l) (i:Int)=(Qpj l)[i]:=by simp[Qjf,List.getElem?_eq_getElem (show i<(Qpj l).length by omega)]
 rw[e1,e2]
 by_cases h0:(Qpj l)[i+1].f0=(Qpj l)[i].f0
 ·by_cases h1:(Qpj l)[i+1].f1=(Qpj l)[i].f1
  ·exfalso
   have he:(Qpj l)[i+1]=(Qpj l)[i]:=by
    generalize (Qpj l)[i+1]=x at *
    generalize (Qpj l)[i]=y at *
    cases x;cases y;simp_all
   have h2:=List.pairwise_iff_getElem.1 hd i (i+1) (by omega) hi (by omega)
   exact h2 he.symm
  ·exact .inr h1
 ·exact .inl h0
theorem Qpv(b:Nat)(v:Value)(l:List Ent)(w:World)(hR:RE w b v l)(hd:l.Nodup)(hl:l.length≤1099511627776) :
  Calls Tryz.prog 68 #[v] w fun e w'=>∃v1,e=.returned v1∧RE w' w.heap.size v1 (Qpj l)∧Below w.heap.size w w':=by
 have HR:=QA hR
 have HD:=QA (Qpu hd)
 obtain⟨A,c,rfl⟩:=Kd.R_slice hR
 clear hR hd
 obtain⟨n,hn⟩:∃n,n=l.length:=⟨_,rfl⟩
 rw[← hn]at HR ⊢
 have HN:=QA hn
 clear hn
 go_enter Tryz.func68,Tryz.ntmps68
 go_wp2_with (first
  |(go_at_call 116;refine(Qpq b _ l _ HR.out hl).mono ?_;rintro e w1 ⟨v1,rfl,hR1,hb1⟩;obtain⟨A1,c1,e1⟩:=Kd.R_slice hR1;rw[← HN.out]at e1;subst e1;have HR1:=QA hR1;clear hR1)
  |(go_at_call 117;refine(Qps _ _ l _ HR1.out hl).mono ?_;rintro e w2 ⟨rfl,hR2,hg2⟩;have HR2:=QA hR2;have hB2:Below w.heap.size w w2:=(hb1.grown hg2 hb1.size (fun k hk=>Kd.R_base HR1.out k hk));clear hR2 hg2)
  |(go_at_call 119;refine(Qpr A1 n c1 (Qpj l) _ (by rw[Qpk];exact HN.out) (by have h:=(Kd.R_reads' HR2.out).2.2;rw[Qpk,← HN.out]at h;exact h) HD.out (by rw[Qpk];exact hl)).mono ?_;rintro e w3 ⟨rfl,hd3⟩))
 go_ret
 refine⟨_,rfl,?_,hB2.trans (Qjn hd3.below hB2.size)⟩
 exact Kd.R_below HR2.out hd3.below
end Go.Proofs.YtnnofopfbeklbaaGreat.C
end
