/- Texts of this claim's author and of the print of its functions, merged by merge.py. -/
import Derived.Test.YtnnofopfbeklbaaGreatMI00
import Derived.Test.YtnnofopfbeklbaaGreatMI01
import Derived.Test.YtnnofopfbeklbaaGreatProg
import Derived.Below
import Derived.Deep.Draws
import Derived.Deep.AppendLies
import Derived.Maps.AppendAt
import Derived.OwnWalk
import Derived.Laws.BytesArg
import Derived.Laws.MakeOwn
import Derived.Laws.OwnMore
import Derived.Deep.OwnRows
import Derived.Tactics
import Derived.Lib.ConvBytes
import Derived.Laws.Slices
import Derived.WalkKit
import Derived.KernelRfl
import Derived.RowKit3
import Derived.Deep.LoopGhost
import Derived.Deep.QuietTactic
import Derived.BigQuiet
import Derived.WideLaws
import Derived.Deep.DeepCutAuto
import Derived.Deep.CutBlock
import Derived.Deep.RegionHeld3
import Derived.Laws.Rows
import Derived.Lib.AppendStr
import Derived.ArgAppend
import Derived.Laws.IdiomCopy
import Derived.OrdersHeld
import Derived.Laws.BitsLemmas
import Derived.RowKit
set_option linter.unusedVariables false
set_option linter.unusedSimpArgs false
set_option maxHeartbeats 8000000
set_option maxRecDepth 100000
section
namespace Go.Proofs.YtnnofopfbeklbaaGreatW.PrintMore
open Go.RowKit Go.Proofs.YtnnofopfbeklbaaGreatW.PrintWords
namespace Kd
open Go.Proofs.YtnnofopfbeklbaaGreatW.PrintWords.Kd
end Kd
namespace Kd
open Go.Proofs.YtnnofopfbeklbaaGreatW.PrintWords.Kd
section
variable {α:Type} {d:Kd α} {e base g N:Nat} {ok:Nat→Prop} {W w1:World} {u v:Value} {xs:List α}
end
end Kd
theorem Qgv(k k':IntKind)(x y:Int):Builtin.max2 (.int k x) (.int k' y)=pure (.int k (if x<y then y else x)):=by simp only[Builtin.max2,gt_iff_lt]
theorem Qgw(k k':IntKind)(x y:Int):Builtin.min2 (.int k x) (.int k' y)=pure (.int k (if y<x then y else x)):=by simp only[Builtin.min2]
theorem Qgx(ats:Array TypeId)(ty:TypeId)(a b:Value):Builtin.max_ ats ty #[a,b]=(Builtin.max2 a b >>= fun s=>pure s):=by simp only[Builtin.max_,List.foldlM_cons,List.foldlM_nil]
theorem Qgy(ats:Array TypeId)(ty:TypeId)(a b:Value):Builtin.min_ ats ty #[a,b]=(Builtin.min2 a b >>= fun s=>pure s):=by simp only[Builtin.min_,List.foldlM_cons,List.foldlM_nil]
theorem Qgz(ats:Array TypeId)(ty:TypeId)(a b c:Value):Builtin.max_ ats ty #[a,b,c]=(Builtin.max2 a b >>= fun s=>Builtin.max2 s c >>= fun s=>pure s):=by simp only[Builtin.max_,List.foldlM_cons,List.foldlM_nil]
theorem Qha(ats:Array TypeId)(ty:TypeId)(a b c:Value):Builtin.min_ ats ty #[a,b,c]=(Builtin.min2 a b >>= fun s=>Builtin.min2 s c >>= fun s=>pure s):=by simp only[Builtin.min_,List.foldlM_cons,List.foldlM_nil]
theorem Qhb(ats:Array TypeId)(ty:TypeId)(a b c d:Value):Builtin.max_ ats ty #[a,b,c,d]=(Builtin.max2 a b >>= fun s=>Builtin.max2 s c >>= fun s=>Builtin.max2 s d >>= fun s=>pure s):=by simp only[Builtin.max_,List.foldlM_cons,List.foldlM_nil]
theorem Qhc(ats:Array TypeId)(ty:TypeId)(a b c d:Value):Builtin.min_ ats ty #[a,b,c,d]=(Builtin.min2 a b >>= fun s=>Builtin.min2 s c >>= fun s=>Builtin.min2 s d >>= fun s=>pure s):=by simp only[Builtin.min_,List.foldlM_cons,List.foldlM_nil]
end Go.Proofs.YtnnofopfbeklbaaGreatW.PrintMore
namespace Go.Proofs.YtnnofopfbeklbaaGreatW.PrintWords
open Go.RowKit
section
variable {P:Program} {ops:Array Oper} {rest:List Oper} {o:Oper} {a:Act} {Q:Exit→Act→World→Prop} {W:World}
theorem Qhd{f:FuncId}{as_:Array Operand}{ts:Array TypeId}(_ho:o.op=.call { callee:=.value (.func f),args:=as_,argTypes:=ts })(h:wpList P ops Q (o :: rest) a W):wpList P ops Q (o :: rest) a W:=h
theorem Qhe{b:Builtin}{xs:Array Operand}{ts:Array TypeId}(_ho:o.op=.call { callee:=.builtin b,args:=xs,argTypes:=ts })(h:wpList P ops Q (o :: rest) a W):wpList P ops Q (o :: rest) a W:=h
end
def mx(a b:Int):Int:=if a<b then b else a
def shl(k:IntKind)(x y:Int):Int:=k.wrap (x*2^min y.toNat k.bits)
def shr(k:IntKind)(x y:Int):Int:=x/2^min y.toNat k.bits
theorem Qhf{k:IntKind}{x y j:Int}(h:shl k x y=j)(hy:y≤k.bits):k.wrap (x*2^y.toNat)=j:=by rw[← h];unfold shl;rw[Nat.min_eq_left (by omega)]
theorem Qhg{k:IntKind}{x y j:Int}(h:shr k x y=j)(hy:y≤k.bits):x/2^y.toNat=j:=by rw[← h];unfold shr;rw[Nat.min_eq_left (by omega)]
namespace Kd
section
variable {α:Type} {d:Kd α} {e base:Nat} {ok:Nat→Prop} {W w1:World} {v:Value} {xs:List α}
end
section
variable {α:Type} {d:Kd α} {e base g n cap:Nat} {ok oki okp:Nat→Prop} {W:World} {xs:List α} {i:Int} {c:List Value}
end
section
variable {α:Type} {d:Kd α} {e base b b' g N:Nat} {ok ok1:Nat→Prop} {W W2 w1:World} {u v:Value} {xs ys:List α} {S:Nat→Prop}
end
end Kd
end Go.Proofs.YtnnofopfbeklbaaGreatW.PrintWords
namespace Go.Proofs.YtnnofopfbeklbaaGreatW.PrintWords
open Go.RowKit
namespace Kd
def V{α:Type}(d:Kd α)(_e:Nat)(W:World)(_base:Nat)(ok:Nat→Prop)(v:Value)(xs:List α):Prop:=∃A c,v=.slice A xs.length c∧xs.length≤c∧F d W ok A xs.length xs
section
variable {α β:Type} {d:Kd α} {e base base' n m c g N' lo hi:Nat} {ok ok' S:Nat→Prop} {w W w1:World} {A:Option Addr} {ad:Addr} {u v v1:Value} {xs:List α}
end
end Kd
end Go.Proofs.YtnnofopfbeklbaaGreatW.PrintWords
end
section
namespace Go.Proofs.YtnnofopfbeklbaaGreat.C
open Go.RowKit Go.Proofs.YtnnofopfbeklbaaGreatW.PrintWords Go.Proofs.YtnnofopfbeklbaaGreatW.PrintLast Go.Proofs.YtnnofopfbeklbaaGreatW.PrintMore
attribute [local go_sem] Qgv Qgw Qgx Qgy Qgz Qha Qhb Qhc
def errW:Option Int→Value
 | none=>.nilIface
 | some c=>.iface 0 (.int .i64 c)
theorem Qhh:errW none=.nilIface:=rfl
theorem Qhi(c:Int):errW (some c)=.iface 0 (.int .i64 c):=rfl
theorem info3:(Tryz.prog.info? 3).map (fun i=>(i.zero,i.size,i.bytes))=some (some (.int .i64 0),1,8):=by kernel_rfl
theorem Qhj:(Tryz.prog.info? 5).map (fun i=>(i.zero,i.size,i.bytes))=some (some (.int .u8 0),1,1):=by kernel_rfl
theorem Qhk:(Tryz.prog.info? 22).map (fun i=>(i.zero,i.size,i.bytes))=some (some (.int .u32 0),1,4):=by kernel_rfl
theorem info34:(Tryz.prog.info? 34).map (fun i=>(i.zero,i.size,i.bytes))=some (some (.int .u64 0),1,8):=by kernel_rfl
theorem info39:(Tryz.prog.info? 39).map (fun i=>(i.zero,i.size,i.bytes))=some (some (.agg #[(.bool false),(.int .u64 0),(.string ⟨#[]⟩),(.string ⟨#[]⟩)]),4,48):=by kernel_rfl
structure S39 where
  f0:Bool
  f1:Int
  f2:ByteArray
  f3:ByteArray
def z39:S39:=⟨false,(0:Int),(⟨#[]⟩:ByteArray),(⟨#[]⟩:ByteArray)⟩
def k39:Kd S39:=Kd.iso (Kd.pair Kd.bool (Kd.pair (Kd.int .u64) (Kd.pair Kd.string Kd.string))) (fun x:S39=>(x.f0,x.f1,x.f2,x.f3))
theorem Qhl{w:World}{x:S39}{cs:List Value}(h:k39.K w x cs):cs=[.bool x.f0,.int .u64 x.f1,.string x.f2,.string x.f3]:=by
 obtain⟨_,_,rfl,rfl,⟨_,_,rfl,rfl,⟨_,_,rfl,rfl,rfl⟩⟩⟩:=h
 exact rfl
theorem Qhm(w:World)(base:Nat)(ok:Nat→Prop)(x:S39)  : k39.M w base ok x [.bool x.f0,.int .u64 x.f1,.string x.f2,.string x.f3]:=⟨[.bool x.f0],[.int .u64 x.f1,.string x.f2,.string x.f3],rfl,rfl,⟨[.int .u64 x.f1],[.string x.f2,.string x.f3],rfl,rfl,⟨[.string x.f2],[.string x.f3],rfl,rfl,rfl⟩⟩⟩
def Qhn(xs:List S39)(i:Int):S39:=xs.getD i.toNat z39
theorem Qho{w:World}{A:Option Addr}{n:Nat}{xs:List S39}(h:Kd.C k39 w A n xs)(i:Int)(h0:0≤i)(h1:i<n):∃ad , A=some ad∧w.cell? (ad.add (i.toNat*4))=some (.bool (Qhn xs i).f0)∧w.cell? ⟨(ad.add (i.toNat*4)).block,(ad.add (i.toNat*4)).off+1,none⟩=some (.int .u64 (Qhn xs i).f1)∧w.cell? ⟨(ad.add (i.toNat*4)).block,(ad.add (i.toNat*4)).off+2,none⟩=some (.string (Qhn xs i).f2)∧w.cell? ⟨(ad.add (i.toNat*4)).block,(ad.add (i.toNat*4)).off+3,none⟩=some (.string (Qhn xs i).f3):=by
 obtain⟨ad,c,e,_,hK,hc0⟩:=Kd.C_get h z39 i h0 h1
 have hc:∀j u,c[j]? = some u→w.cell? (ad.add (i.toNat*4+j))=some u:=hc0
 obtain rfl:=Qhl hK
 exact⟨ad,e,hc 0 _ rfl,by rw[← Qco _ _ 1 (by omega)];exact hc 1 _ rfl,by rw[← Qco _ _ 2 (by omega)];exact hc 2 _ rfl,by rw[← Qco _ _ 3 (by omega)];exact hc 3 _ rfl⟩
structure S27 where
  f0:Int
  f1:Int
def k27:Kd S27:=Kd.iso (Kd.pair (Kd.int .u8) (Kd.int .u32)) (fun x:S27=>(x.f0,x.f1))
theorem Qhp{w:World}{x:S27}{cs:List Value}(h:k27.K w x cs):cs=[.int .u8 x.f0,.int .u32 x.f1]:=by
 obtain⟨_,_,rfl,rfl,rfl⟩:=h
 exact rfl
structure S117 where
  f0:Int
  f1:Int
def z117:S117:=⟨(0:Int),(0:Int)⟩
def k117:Kd S117:=Kd.iso (Kd.pair (Kd.int .u64) (Kd.int .u32)) (fun x:S117=>(x.f0,x.f1))
theorem Qhq{w:World}{x:S117}{cs:List Value}(h:k117.K w x cs):cs=[.int .u64 x.f0,.int .u32 x.f1]:=by
 obtain⟨_,_,rfl,rfl,rfl⟩:=h
 exact rfl
theorem Qhr{w:World}{base:Nat}{ok:Nat→Prop}{x:S117}{cs:List Value}(h:k117.M w base ok x cs):cs=[.int .u64 x.f0,.int .u32 x.f1]:=by
 obtain⟨_,_,rfl,rfl,rfl⟩:=h
 exact rfl
theorem Qhs(w:World)(base:Nat)(ok:Nat→Prop)(x:S117)  : k117.M w base ok x [.int .u64 x.f0,.int .u32 x.f1]:=⟨[.int .u64 x.f0],[.int .u32 x.f1],rfl,rfl,rfl⟩
def Qht(xs:List S117)(i:Int):S117:=xs.getD i.toNat z117
theorem Qhu{w:World}{A:Option Addr}{n:Nat}{xs:List S117}(h:Kd.C k117 w A n xs)(i:Int)(h0:0≤i)(h1:i<n):∃ad , A=some ad∧w.cell? (ad.add (i.toNat*2))=some (.int .u64 (Qht xs i).f0)∧w.cell? ⟨(ad.add (i.toNat*2)).block,(ad.add (i.toNat*2)).off+1,none⟩=some (.int .u32 (Qht xs i).f1):=by
 obtain⟨ad,c,e,_,hK,hc0⟩:=Kd.C_get h z117 i h0 h1
 have hc:∀j u,c[j]? = some u→w.cell? (ad.add (i.toNat*2+j))=some u:=hc0
 obtain rfl:=Qhq hK
 exact⟨ad,e,hc 0 _ rfl,by rw[← Qco _ _ 1 (by omega)];exact hc 1 _ rfl⟩
structure S69 where
  f0:Int
  f1:Int
structure S122 where
  f0:Int
  f1:Int
structure S207 where
  f0:ByteArray
  f1:ByteArray
def z207:S207:=⟨(⟨#[]⟩:ByteArray),(⟨#[]⟩:ByteArray)⟩
def k207:Kd S207:=Kd.iso (Kd.pair Kd.string Kd.string) (fun x:S207=>(x.f0,x.f1))
theorem Qhv{w:World}{x:S207}{cs:List Value}(h:k207.K w x cs):cs=[.string x.f0,.string x.f1]:=by
 obtain⟨_,_,rfl,rfl,rfl⟩:=h
 exact rfl
theorem Qhw(w:World)(base:Nat)(ok:Nat→Prop)(x:S207)  : k207.M w base ok x [.string x.f0,.string x.f1]:=⟨[.string x.f0],[.string x.f1],rfl,rfl,rfl⟩
def Qhx(xs:List S207)(i:Int):S207:=xs.getD i.toNat z207
theorem at_T207{w:World}{A:Option Addr}{n:Nat}{xs:List S207}(h:Kd.C k207 w A n xs)(i:Int)(h0:0≤i)(h1:i<n):∃ad , A=some ad∧w.cell? (ad.add (i.toNat*2))=some (.string (Qhx xs i).f0)∧w.cell? ⟨(ad.add (i.toNat*2)).block,(ad.add (i.toNat*2)).off+1,none⟩=some (.string (Qhx xs i).f1):=by
 obtain⟨ad,c,e,_,hK,hc0⟩:=Kd.C_get h z207 i h0 h1
 have hc:∀j u,c[j]? = some u→w.cell? (ad.add (i.toNat*2+j))=some u:=hc0
 obtain rfl:=Qhv hK
 exact⟨ad,e,hc 0 _ rfl,by rw[← Qco _ _ 1 (by omega)];exact hc 1 _ rfl⟩
structure S210 where
  f0:ByteArray
  f1:ByteArray
theorem qq_b{b:Nat}{w w':World}(h:Below b w w':=by repeat(first |(with_reducible first|exact HB.out|apply Qbw|apply Qby|apply Qeh|refine Qed ?_ (Aside0.out (by assumption)))|exact HB.out)):Below b w w':=h
theorem qq_c{W:World}{g:Nat}{t:TypeId}{cs:Array Value}(v:Value)(h:W.heap[g]? = some (.cells cs t (0,0)))(i:Nat)(hv:cs[i]? = some v):W.cell? ⟨g,i,none⟩=some v:=(Qct h i).trans hv
theorem qq_h{w w':World}(hb:Below w.heap.size w w'){p:Addr}{v:Value}(h:w.cell? p=some v):w'.cell? p=some v:=(hb.cell (World.block_lt_of_cell? w _ h)).trans h
theorem qq_s{w W:World}{g:Nat}(hg:g=W.heap.size)(h:Below w.heap.size w W:=by exact qq_b):w.heap.size≤g:=hg ▸ Qea h
theorem qq_e{P:Program}{ops:Array Oper}{o:Oper}{rest:List Oper}{a:Act}{Q:Exit→Act→World→Prop}{W:World}(N:Tmp)(cs:Array Value)(t:TypeId)(h:∀g,g=W.heap.size→∀w1,w1.heap[g]? = some (.cells cs t (0,0))→Below W.heap.size W w1→wpList P ops Q rest (a.put o.dst (.pointer (some ⟨g,0,none⟩))) w1)(hgd:o.guard=none:=by rfl)(hd:o.dst=some N:=by rfl)(hrun:(execOp a.eval o).run P W=.ok (.value (.pointer (some ⟨W.heap.size,0,none⟩))) (W.alloc (.cells cs t (0,0))):=by first |(go_simp;done) |(go_simp;rfl)):wpList P ops Q (o :: rest) a W:=Qek hgd hd hrun h
theorem qq_0{p:Prop}(h:p:=by(with_reducible repeat(first|apply Qdf|apply Qde|apply Qdd));exact Aside0.out (by assumption)):p:=h
theorem qq_1{p:Prop}(h:p:=by(try simp only[List.map_toArray,List.map_cons,List.map_nil]);first|done|rfl |(simp only[List.length_drop,List.length_take];rfl)):p:=h
theorem qq_2{p:Prop}(h:p:=by first |(simp only[Qff,Act.put,List.setIfInBounds_toArray,List.set_cons_zero,List.set_cons_succ];done) |(simp only[Qff,Act.put,List.setIfInBounds_toArray,List.set_cons_zero,List.set_cons_succ];rfl)):p:=h
theorem qq_3{p:Prop}(h:p:=by(with_reducible repeat(first|apply Kd.R_alloc|apply Kd.R_drewN|apply Kd.R_drew));exact Aside0.out (by assumption)):p:=h
theorem qq_4{p:Prop}(h:p:=by simp only[Act.put,List.setIfInBounds_toArray,List.set_cons_zero,List.set_cons_succ,Qfm,Qfn];rfl):p:=h
theorem qq_5{p:Prop}(h:p:=by kernel_rfl):p:=h
theorem qq_6{p:Prop}(h:p:=by first |(with_reducible assumption)|assumption):p:=h
theorem qq_7{p:Prop}(h:p:=by(repeat(first |(with_reducible first|apply Qdf|apply Qde|apply Qdd)|refine Qcr ?_ (Aside0.out (by assumption)) _));exact Aside0.out (by assumption)):p:=h
theorem qq_8{p:Prop}(h:p:=by simp only[List.map_toArray,List.map_cons,List.map_nil];rfl):p:=h
theorem qq_9{p:Prop}(h:p:=by first|rfl |(simp;done) |(simp[*];done)):p:=h
theorem qq_10{p:Prop}(h:p:=by(try simp only[List.map_toArray,List.map_cons,List.map_nil]);first|done |(simp only[hji2];rfl)|rfl |(simp only[List.length_drop,List.length_take];rfl)):p:=h
theorem qq_11{p:Prop}(h:p:=by have:=HN.out;omega):p:=h
theorem qq_12{p:Prop}(h:p:=by rw[List.length_drop];omega):p:=h
theorem qq_13{p:Prop}(h:p:=by simp;omega):p:=h
def Qal.f(a0_0:Int)(a0_1:Int):Option (Int):=if a0_0<12 then(some 1)else(if a0_0 > 24 then(some 1)else(if a0_1<1 then(some 1)else(if a0_1 > 65536 then(some 1)else(some 0))))
theorem Qal.calls(a0_0:Int)(a0_1:Int)(r:Int)(w:World)(h:Qal.f a0_0 a0_1=some r) :
  Calls Tryz.prog 85 #[.agg #[.int .u8 a0_0,.int .u32 a0_1]] w fun e w'=>e=.returned (.int .i64 r)∧Below w.heap.size w w':=by
 have hu27:=Tryz.underlying27
 have HB:=QA (Below.refl w.heap.size w)
 have H:(if a0_0<12 then(some 1)else(if a0_0 > 24 then(some 1)else(if a0_1<1 then(some 1)else(if a0_1 > 65536 then(some 1)else(some 0)))))=some r:=h
 clear h
 by_cases c2:a0_0<12
 ·rw[if_pos c2]at H
  have c2b0:decide (a0_0<12)=true:=decide_eq_true c2
  clear c2
  obtain rfl:=Option.some.inj H
  go_enter Tryz.func85,Tryz.ntmps85
  go_wp2_with (first |((with_reducible refine Qel (N:=1) rfl ?_);refine qq_e 1 #[.int .u8 a0_0,.int .u32 a0_1] 27 ?_;intro gb103 hg w3 hbox hb;have n0_:=QA (Qeb qq_b hb);have n1_:=QA (hbox);have n2_:=QA (qq_s hg:w.heap.size≤gb103);have n3_:=n2_;clear HB;have HB:=n0_;have BK103:=n1_;have GW103:=n2_;have GE103:=n3_;clear n0_ n1_ n2_ n3_ hb hbox hg;have hcz4_0:=qq_c (.int .u8 a0_0) BK103.out 0 rfl;have hcz4_1:=qq_c (.int .u32 a0_1) BK103.out 1 rfl;have hfz4_0:=Qcu BK103.out 0;have hfz4_1:=Qcu BK103.out 1))
  go_ret
  exact⟨by first|rfl |(simp[Qhh,Qhi]<;>rfl) |(simp[*,Qhh,Qhi]<;>rfl),qq_b⟩
 ·rw [if_neg c2]at H
  have c2b0:decide (a0_0<12)=false:=decide_eq_false c2
  clear c2
  by_cases c5:a0_0 > 24
  ·rw[if_pos c5]at H
   have c5b0:decide (24<a0_0)=true:=decide_eq_true c5
   clear c5
   obtain rfl:=Option.some.inj H
   go_enter Tryz.func85,Tryz.ntmps85
   go_wp2_with (first |((with_reducible refine Qel (N:=1) rfl ?_);refine qq_e 1 #[.int .u8 a0_0,.int .u32 a0_1] 27 ?_;intro gb103 hg w6 hbox hb;have n0_:=QA (Qeb qq_b hb);have n1_:=QA (hbox);have n2_:=QA (qq_s hg:w.heap.size≤gb103);have n3_:=n2_;clear HB;have HB:=n0_;have BK103:=n1_;have GW103:=n2_;have GE103:=n3_;clear n0_ n1_ n2_ n3_ hb hbox hg;have hcz7_0:=qq_c (.int .u8 a0_0) BK103.out 0 rfl;have hcz7_1:=qq_c (.int .u32 a0_1) BK103.out 1 rfl;have hfz7_0:=Qcu BK103.out 0;have hfz7_1:=Qcu BK103.out 1))
   go_ret
   exact⟨by first|rfl |(simp[Qhh,Qhi]<;>rfl) |(simp[*,Qhh,Qhi]<;>rfl),qq_b⟩
  ·rw[if_neg c5]at H
   have c5b0:decide (24<a0_0)=false:=decide_eq_false c5
   clear c5
   by_cases c8:a0_1<1
   ·rw[if_pos c8]at H
    have c8b0:decide (a0_1<1)=true:=decide_eq_true c8
    clear c8
    obtain rfl:=Option.some.inj H
    go_enter Tryz.func85,Tryz.ntmps85
    go_wp2_with (first |((with_reducible refine Qel (N:=1) rfl ?_);refine qq_e 1 #[.int .u8 a0_0,.int .u32 a0_1] 27 ?_;intro gb103 hg w9 hbox hb;have n0_:=QA (Qeb qq_b hb);have n1_:=QA (hbox);have n2_:=QA (qq_s hg:w.heap.size≤gb103);have n3_:=n2_;clear HB;have HB:=n0_;have BK103:=n1_;have GW103:=n2_;have GE103:=n3_;clear n0_ n1_ n2_ n3_ hb hbox hg;have hcz10_0:=qq_c (.int .u8 a0_0) BK103.out 0 rfl;have hcz10_1:=qq_c (.int .u32 a0_1) BK103.out 1 rfl;have hfz10_0:=Qcu BK103.out 0;have hfz10_1:=Qcu BK103.out 1))
    go_ret
    exact⟨by first|rfl |(simp[Qhh,Qhi]<;>rfl) |(simp[*,Qhh,Qhi]<;>rfl),qq_b⟩
   ·rw[if_neg c8]at H
    have c8b0:decide (a0_1<1)=false:=decide_eq_false c8
    clear c8
    by_cases c11:a0_1 > 65536
    ·rw[if_pos c11]at H
     have c11b0:decide (65536<a0_1)=true:=decide_eq_true c11
     clear c11
     obtain rfl:=Option.some.inj H
     go_enter Tryz.func85,Tryz.ntmps85
     go_wp2_with (first |((with_reducible refine Qel (N:=1) rfl ?_);refine qq_e 1 #[.int .u8 a0_0,.int .u32 a0_1] 27 ?_;intro gb103 hg w12 hbox hb;have n0_:=QA (Qeb qq_b hb);have n1_:=QA (hbox);have n2_:=QA (qq_s hg:w.heap.size≤gb103);have n3_:=n2_;clear HB;have HB:=n0_;have BK103:=n1_;have GW103:=n2_;have GE103:=n3_;clear n0_ n1_ n2_ n3_ hb hbox hg;have hcz13_0:=qq_c (.int .u8 a0_0) BK103.out 0 rfl;have hcz13_1:=qq_c (.int .u32 a0_1) BK103.out 1 rfl;have hfz13_0:=Qcu BK103.out 0;have hfz13_1:=Qcu BK103.out 1))
     go_ret
     exact⟨by first|rfl |(simp[Qhh,Qhi]<;>rfl) |(simp[*,Qhh,Qhi]<;>rfl),qq_b⟩
    ·rw[if_neg c11]at H
     have c11b0:decide (65536<a0_1)=false:=decide_eq_false c11
     clear c11
     obtain rfl:=Option.some.inj H
     go_enter Tryz.func85,Tryz.ntmps85
     go_wp2_with (first |((with_reducible refine Qel (N:=1) rfl ?_);refine qq_e 1 #[.int .u8 a0_0,.int .u32 a0_1] 27 ?_;intro gb103 hg w14 hbox hb;have n0_:=QA (Qeb qq_b hb);have n1_:=QA (hbox);have n2_:=QA (qq_s hg:w.heap.size≤gb103);have n3_:=n2_;clear HB;have HB:=n0_;have BK103:=n1_;have GW103:=n2_;have GE103:=n3_;clear n0_ n1_ n2_ n3_ hb hbox hg;have hcz15_0:=qq_c (.int .u8 a0_0) BK103.out 0 rfl;have hcz15_1:=qq_c (.int .u32 a0_1) BK103.out 1 rfl;have hfz15_0:=Qcu BK103.out 0;have hfz15_1:=Qcu BK103.out 1))
     go_ret
     exact⟨by first|rfl |(simp[Qhh,Qhi]<;>rfl) |(simp[*,Qhh,Qhi]<;>rfl),qq_b⟩
def Qbd.l0:Nat→List (S39)→List (S207)→Int→Int→Option ((List (S39)))
 | 0,_,_,_,_=>none
 | k+1,x3,x6,x7,x8=>if x8<x7 then(if 0≤x8 then(if x8<(x6.length:Int)then(if x3.length<2932031007402 then(Qbd.l0 k (x3++[(⟨false,IntKind.u64.wrap ((IntKind.u64.wrap (x8))+1),(Qhx x6 x8).f0,(Qhx x6 x8).f1⟩:S39)]) x6 x7 (wrap64 (x8+1)))else(none))else(none))else(none))else(some x3)
def Qbd.f(k:Nat)(l0:List (S207)):Option ((List (S39))):=Qbd.l0 k ([]:List (S39)) l0 (l0.length:Int) 0
theorem Qbd.calls(k:Nat)(A0:Option Addr)(c0:Nat)(l0:List (S207))(r:List (S39))(w:World)(hr0:Kd.C k207 w A0 l0.length l0)(hc0:l0.length≤c0)(h:Qbd.f k l0=some r) :
  Calls Tryz.prog 87 #[.slice A0 l0.length c0] w fun e w'=>∃v0_:Value,e=.returned (v0_)∧Kd.R k39 39 w' w.heap.size (fun _=>True) v0_ r∧Below w.heap.size w w':=by
 have hu207:=Tryz.underlying207
 have hu39:=Tryz.underlying39
 have HR0:=QA hr0
 have HC0:=QA hc0
 clear hr0 hc0
 have HB:=QA (Below.refl w.heap.size w)
 have H:(Qbd.l0 k ([]:List (S39)) l0 (l0.length:Int) 0)=some r:=h
 clear h
 have H':=QA H
 clear H
 go_enter Tryz.func87,Tryz.ntmps87
 go_wp2
 go_loopg [3,8] k (fun kq v3 v8 w'=>∃(x3_1:List (S39)) (x8_1:Int),v8=.int .i64 x8_1∧Aside0 (Qbd.l0 kq x3_1 l0 (l0.length:Int) x8_1=some r)∧Aside0 (kq≤k)∧Aside0 (Kd.R k39 39 w' w.heap.size (fun _=>True) v3 x3_1)∧Aside0 (Below w.heap.size w w'))
 case atStart=>exact⟨(([]:List (S39))),(0),qq_9,H',⟨Nat.le_refl _⟩,⟨by first|exact Kd.R_nil _ _ _ _ _|exact Kd.N_nil _ _ _ _ _|exact Kd.V_nil _ _ _ _ _|exact Kd.Q_nil _ _ _ _ _|exact Kd.S_nil _ _ _ _ _⟩,⟨qq_b⟩⟩
 case round =>
  clear H'
  obtain⟨x3_1,x8_1,rfl,HA,HK1,HO_3,HB⟩:=hrel
  cases gk with
  | zero=>exact absurd HA.out (by simp[Qbd.l0])
  | succ k1 =>
   have H:=HA.out
   clear HA
   simp only[Qbd.l0]at H
   by_cases c2:x8_1<(l0.length:Int)
   ·rw [if_pos c2]at H
    have c2b0:decide (x8_1<(l0.length:Int))=true:=decide_eq_true c2
    clear c2
    by_cases c3:0≤x8_1
    ·rw[if_pos c3]at H
     have c3b0:decide (0≤x8_1)=true:=decide_eq_true c3
     clear c3
     by_cases c4:x8_1<(l0.length:Int)
     ·rw[if_pos c4]at H
      have c4b0:decide (x8_1<(l0.length:Int))=true:=decide_eq_true c4
      clear c4
      by_cases c5:x3_1.length<2932031007402
      ·rw[if_pos c5]at H
       have LMc5:=QA c5
       clear c5
       obtain⟨y720,hy720⟩:∃y_:List (S39),y_=(x3_1++[(⟨false,IntKind.u64.wrap ((IntKind.u64.wrap (x8_1))+1),(Qhx l0 x8_1).f0,(Qhx l0 x8_1).f1⟩:S39)]):=⟨_,rfl⟩
       replace H:(Qbd.l0 k1 y720 l0 (l0.length:Int) (wrap64 (x8_1+1)))=some r:=by first |(rw[hy720];with_reducible exact H) |(have H2_:=(Option.bind_some _ _).symm.trans H;rw[hy720];with_reducible exact H2_) |(have H2_:=(Option.bind_some _ _).symm.trans H;with_reducible exact H2_)|with_reducible exact H |(rw[hy720];exact H)|exact H
       have Ny720:=QA hy720
       clear hy720
       have H':=QA H
       clear H
       have p718:0≤(x8_1:Int):=of_decide_eq_true qq_6
       have q718:x8_1<(l0.length:Int):=of_decide_eq_true qq_6
       obtain⟨ad718,e718,hx718_0,hx718_1⟩:=at_T207 HR0.out x8_1 p718 q718
       cases e718
       replace hx718_0:=qq_h HB.out hx718_0
       replace hx718_1:=qq_h HB.out hx718_1
       replace p718:=eq_true p718
       replace q718:=eq_true q718
       go_wp2_with (first |((with_reducible refine Qel (N:=5) rfl ?_);refine qq_e 5 #[.string (⟨#[]⟩:ByteArray),.string (⟨#[]⟩:ByteArray)] 207 ?_;intro gb719 hg w6 hbox hb;have n0_:=QA (Kd.R_below qq_3 hb);have n1_:=QA (Qeb qq_b hb);have n2_:=QA (hbox);have n3_:=QA (qq_s hg:w.heap.size≤gb719);have n4_:=n3_;clear HO_3 HB;have HO_3:=n0_;have HB:=n1_;have BK719:=n2_;have GW719:=n3_;have GE719:=n4_;clear n0_ n1_ n2_ n3_ n4_ hb hbox hg;have hcz7_0:=qq_c (.string (⟨#[]⟩:ByteArray)) BK719.out 0 rfl;have hcz7_1:=qq_c (.string (⟨#[]⟩:ByteArray)) BK719.out 1 rfl;have hfz7_0:=Qcu BK719.out 0;have hfz7_1:=Qcu BK719.out 1) |((with_reducible refine Qhe (b:=.append) (xs:=#[.tmp 13,.tmp 22]) rfl ?_);at_builtin;refine Kd.R_append k39 (w0:=w) w.heap.size rfl (.tmp 13) (.tmp 22) 23 39 (.agg #[(.bool false),(.int .u64 0),(.string ⟨#[]⟩),(.string ⟨#[]⟩)]) 48 rfl Tryz.underlying23 info39 rfl (by decide) (by omega) u3 x3_1 (⟨false,IntKind.u64.wrap ((IntKind.u64.wrap (x8_1))+1),(Qhx l0 x8_1).f0,(Qhx l0 x8_1).f1⟩:S39) [.bool false,.int .u64 (IntKind.u64.wrap ((IntKind.u64.wrap (x8_1))+1)),.string ((Qhx l0 x8_1).f0),.string ((Qhx l0 x8_1).f1)] (fun _=>True) (fun _=>False) rfl (by first |(go_simp;done) |(go_simp;rfl)) ?aP (fun _ hk=>hk.elim) ?aF ?aO ?aB ?aS ?aL ?_;(case aP=>exact Qhm _ _ _ (⟨false,IntKind.u64.wrap ((IntKind.u64.wrap (x8_1))+1),(Qhx l0 x8_1).f0,(Qhx l0 x8_1).f1⟩:S39));(case aB=>exact qq_b);(case aF=>exact(fun _ _=>trivial));(case aO=>exact(by(with_reducible repeat(first|apply Kd.R_alloc|apply Kd.R_drewN|apply Kd.R_drew));exact Kd.R_mono (Kd.R_far (p:=⟨gb719,1,none⟩) (Kd.R_far (p:=⟨gb719,0,none⟩) (Kd.R_types HO_3.out BK719.out (by decide)) (fun _ hk=>hk.2) (.string ((Qhx l0 x8_1).f0))) (fun _ hk=>hk.2) (.string ((Qhx l0 x8_1).f1))) (fun _ hk=>trivial)));(case aS=>exact(Qea qq_b));(case aL=>have:=LMc5.out;omega);intro v721 w8 ho hb hg hat;rw[← Ny720.out]at ho;have n0_:=QA (Qcv (g:=gb719) (o:=.cells #[.string ((Qhx l0 x8_1).f0),.string ((Qhx l0 x8_1).f1)] 207 (0,0)) (by(with_reducible repeat(first|apply Qdf|apply Qde|apply Qdd));refine Qeg (cs:=#[.string ((Qhx l0 x8_1).f0),.string (⟨#[]⟩:ByteArray)]) ?_ 1 _ rfl;(with_reducible repeat(first|apply Qdf|apply Qde|apply Qdd));refine Qeg (cs:=#[.string (⟨#[]⟩:ByteArray),.string (⟨#[]⟩:ByteArray)]) ?_ 0 _ rfl;(with_reducible repeat(first|apply Qdf|apply Qde|apply Qdd));exact BK719.out) hg (Kd.R_ne HO_3.out BK719.out (by decide)));have n1_:=QA (hb);have n2_:=QA (ho);clear BK719 HB HO_3;have BK719:=n0_;have HB:=n1_;have HO722:=n2_;clear n0_ n1_ n2_;clear ho hb hg hat))
       go_roundg k1
       case measure=>have:=HK1.out;omega
       case rel=>exact⟨(y720),(wrap64 (x8_1+1)),qq_9,H',⟨by have:=HK1.out;omega⟩,⟨by(with_reducible repeat(first|apply Kd.R_alloc|apply Kd.R_drewN|apply Kd.R_drew));exact HO722.out⟩,⟨qq_b⟩⟩
      ·rw[if_neg c5]at H
       exact absurd H (by simp)
     ·rw[if_neg c4]at H
      exact absurd H (by simp)
    ·rw[if_neg c3]at H
     exact absurd H (by simp)
   ·rw[if_neg c2]at H
    have c2b0:decide (x8_1<(l0.length:Int))=false:=decide_eq_false c2
    clear c2
    obtain rfl:=Option.some.inj H
    go_wp2
    go_ret
    exact⟨_,by first|rfl |(simp[Qhh,Qhi]<;>rfl) |(simp[*,Qhh,Qhi]<;>rfl),by(with_reducible repeat(first|apply Kd.R_alloc|apply Kd.R_drewN|apply Kd.R_drew));exact HO_3.out,qq_b⟩
def Qak.f(a0:Int):Option (Int):=if a0≤0 then(some 1)else(some (wrap64 ((wrap64 (a0+1))+(wrap64 (Int.tdiv (wrap64 (a0-1)) 254)))))
theorem Qak.calls(a0:Int)(r:Int)(w:World)(h:Qak.f a0=some r) :
  Calls Tryz.prog 197 #[.int .i64 a0] w fun e w'=>e=.returned (.int .i64 r)∧Drawn0 w w':=by
 have H:(if a0≤0 then(some 1)else(some (wrap64 ((wrap64 (a0+1))+(wrap64 (Int.tdiv (wrap64 (a0-1)) 254))))))=some r:=h
 clear h
 by_cases c2:a0≤0
 ·rw[if_pos c2]at H
  have c2b0:decide (a0≤0)=true:=decide_eq_true c2
  clear c2
  obtain rfl:=Option.some.inj H
  go_enter Tryz.func197,Tryz.ntmps197
  go_wp2
  go_ret
  exact⟨by first|rfl |(simp;done) |(simp[*];done),by repeat(first|exact Drawn0.refl _|apply Drawn0.step)⟩
 ·rw[if_neg c2]at H
  have c2b0:decide (a0≤0)=false:=decide_eq_false c2
  clear c2
  obtain rfl:=Option.some.inj H
  go_enter Tryz.func197,Tryz.ntmps197
  go_wp2
  go_ret
  exact⟨by first|rfl |(simp;done) |(simp[*];done),by repeat(first|exact Drawn0.refl _|apply Drawn0.step)⟩
def Qad.f(a0:Int)(a1:Int):Option (Int):=if 0≤(Go.bits .and .u64 (IntKind.u64.wrap (a1)) 63)then(if 0≤(IntKind.u64.wrap (64-(Go.bits .and .u64 (IntKind.u64.wrap (a1)) 63)))then(some (Go.bits .or .u64 (shl .u64 a0 (Go.bits .and .u64 (IntKind.u64.wrap (a1)) 63)) (shr .u64 a0 (IntKind.u64.wrap (64-(Go.bits .and .u64 (IntKind.u64.wrap (a1)) 63))))))else(none))else(none)
theorem Qad.calls(a0:Int)(a1:Int)(r:Int)(w:World)(h:Qad.f a0 a1=some r) :
  Calls Tryz.prog 202 #[.int .u64 a0,.int .i64 a1] w fun e w'=>e=.returned (.int .u64 r)∧Drawn0 w w':=by
 have H:(if 0≤(Go.bits .and .u64 (IntKind.u64.wrap (a1)) 63)then(if 0≤(IntKind.u64.wrap (64-(Go.bits .and .u64 (IntKind.u64.wrap (a1)) 63)))then(some (Go.bits .or .u64 (shl .u64 a0 (Go.bits .and .u64 (IntKind.u64.wrap (a1)) 63)) (shr .u64 a0 (IntKind.u64.wrap (64-(Go.bits .and .u64 (IntKind.u64.wrap (a1)) 63))))))else(none))else(none))=some r:=h
 clear h
 obtain⟨ji3,hji3⟩:∃j_:Int,(Go.bits .and .u64 (IntKind.u64.wrap (a1)) 63)=j_:=⟨_,rfl⟩
 replace H:(if 0≤(ji3)then(if 0≤(IntKind.u64.wrap (64-(ji3)))then(some (Go.bits .or .u64 (shl .u64 a0 (ji3)) (shr .u64 a0 (IntKind.u64.wrap (64-(ji3))))))else(none))else(none))=some r:=by first |(rw[hji3]at H;exact H) |(simp only[hji3]at H ⊢;exact H)
 by_cases c4:0≤(ji3)
 ·rw[if_pos c4]at H
  have c4b0:=eq_true c4
  have c4b1:decide (0≤(ji3))=true:=decide_eq_true c4
  clear c4
  obtain⟨ji5,hji5⟩:∃j_:Int,(shl .u64 a0 (ji3))=j_:=⟨_,rfl⟩
  replace H:(if 0≤(IntKind.u64.wrap (64-(ji3)))then(some (Go.bits .or .u64 (ji5) (shr .u64 a0 (IntKind.u64.wrap (64-(ji3))))))else(none))=some r:=by first |(rw[hji5]at H;exact H) |(simp only[hji5]at H ⊢;exact H)
  have hji5_:(IntKind.u64.wrap (a0*2^min (ji3).toNat 64))=ji5:=hji5
  have hji5z:(ji3)≤64→(IntKind.u64.wrap (a0*2^(ji3).toNat))=ji5:=Qhf hji5
  obtain⟨ji6,hji6⟩:∃j_:Int,(IntKind.u64.wrap (64-(ji3)))=j_:=⟨_,rfl⟩
  replace H:(if 0≤(ji6)then(some (Go.bits .or .u64 (ji5) (shr .u64 a0 (ji6))))else(none))=some r:=by first |(rw[hji6]at H;exact H) |(simp only[hji6]at H ⊢;exact H)
  by_cases c7:0≤(ji6)
  ·rw[if_pos c7]at H
   have c7b0:=eq_true c7
   have c7b1:decide (0≤(ji6))=true:=decide_eq_true c7
   clear c7
   obtain⟨ji8,hji8⟩:∃j_:Int,(shr .u64 a0 (ji6))=j_:=⟨_,rfl⟩
   replace H:(some (Go.bits .or .u64 (ji5) (ji8)))=some r:=by first |(rw[hji8]at H;exact H) |(simp only[hji8]at H ⊢;exact H)
   have hji8_:(a0/2^min (ji6).toNat 64)=ji8:=hji8
   have hji8z:(ji6)≤64→(a0/2^(ji6).toNat)=ji8:=Qhg hji8
   obtain rfl:=Option.some.inj H
   go_enter Tryz.func202,Tryz.ntmps202
   go_wp2
   go_ret
   exact⟨by first|rfl |(simp;done) |(simp only[← hji3,← hji5,← hji6,← hji8]<;>(first|rfl|simp)) |(simp[*];done),by repeat(first|exact Drawn0.refl _|apply Drawn0.step)⟩
  ·rw[if_neg c7]at H
   exact absurd H (by simp)
 ·rw[if_neg c4]at H
  exact absurd H (by simp)
def Qbu.f(a0:Int)(a1:Int):Option (Int):=(Qad.f (IntKind.u64.wrap (a0+(IntKind.u64.wrap (a1*14029467366897019727)))) 31).bind fun t566=>(some (IntKind.u64.wrap (t566*11400714785074694791)))
theorem Qbu.calls(a0:Int)(a1:Int)(r:Int)(w:World)(h:Qbu.f a0 a1=some r) :
  Calls Tryz.prog 199 #[.int .u64 a0,.int .u64 a1] w fun e w'=>e=.returned (.int .u64 r)∧Drawn0 w w':=by
 have H:((Qad.f (IntKind.u64.wrap (a0+(IntKind.u64.wrap (a1*14029467366897019727)))) 31).bind fun t566=>(some (IntKind.u64.wrap (t566*11400714785074694791))))=some r:=h
 clear h
 replace H:=Option.bind_eq_some_iff.mp H
 obtain⟨t566,A30,H⟩:=H
 replace H:(some (IntKind.u64.wrap (t566*11400714785074694791)))=some r:=H
 have A3:=QA A30
 clear A30
 obtain rfl:=Option.some.inj H
 go_enter Tryz.func199,Tryz.ntmps199
 go_wp2_with (first |((with_reducible refine Qhd (f:=202) rfl ?_);refine Qfk (some 9) rfl rfl Tryz.func202 qq_5 rfl #[.int .u64 (IntKind.u64.wrap (a0+(IntKind.u64.wrap (a1*14029467366897019727)))),.int .i64 31] rfl qq_1 ?_;(with_reducible refine(Qad.calls (IntKind.u64.wrap (a0+(IntKind.u64.wrap (a1*14029467366897019727)))) 31 t566 _ A3.out).mono ?_);rintro e w' ⟨rfl,⟨nd,rfl⟩⟩;refine⟨_,rfl,?_⟩))
 go_ret
 exact⟨by first|rfl |(simp;done) |(simp[*];done),by repeat(first|exact Drawn0.refl _|apply Drawn0.step)⟩
def Qbv.l0:Nat→List Int→Int→Int→Int→Option (Int)
 | 0,_,_,_,_=>none
 | k+1,x0,x5,x7,x8=>if x8<x7 then(if 0≤x8 then(if x8<(x0.length:Int)then(if 0≤(wrap64 (8*x8))then(Qbv.l0 k x0 (Go.bits .or .u64 x5 (shl .u64 (IntKind.u64.wrap (rd x0 x8)) (wrap64 (8*x8)))) x7 (wrap64 (x8+1)))else(none))else(none))else(none))else(some x5)
def Qbv.f(k:Nat)(l0:List Int)(a1:Int):Option (Int):=Qbv.l0 k l0 0 a1 0
theorem Qbv.calls(k:Nat)(A0:Option Addr)(c0:Nat)(l0:List Int)(a1:Int)(r:Int)(w:World)(hr0:Kd.C (Kd.int .u8) w A0 l0.length l0)(hc0:l0.length≤c0)(h:Qbv.f k l0 a1=some r) :
  Calls Tryz.prog 200 #[.slice A0 l0.length c0,.int .i64 a1] w fun e w'=>e=.returned (.int .u64 r)∧Drawn0 w w':=by
 have HR0:=QA hr0
 have HC0:=QA hc0
 clear hr0 hc0
 have H:(Qbv.l0 k l0 0 a1 0)=some r:=h
 clear h
 have H':=QA H
 clear H
 go_enter Tryz.func200,Tryz.ntmps200
 go_wp2
 go_loopg [5,8] k (fun kq v5 v8 w'=>∃(x5_1:Int) (x8_1:Int),v5=.int .u64 x5_1∧v8=.int .i64 x8_1∧Aside0 (Qbv.l0 kq l0 x5_1 a1 x8_1=some r)∧Aside0 (kq≤k)∧Drawn0 w w')
 case atStart=>exact⟨(0),(0),qq_9,qq_9,H',⟨Nat.le_refl _⟩,by repeat(first|exact Drawn0.refl _|apply Drawn0.step)⟩
 case round =>
  clear H'
  obtain⟨x5_1,x8_1,rfl,rfl,HA,HK1,⟨m1,rfl⟩⟩:=hrel
  cases gk with
  | zero=>exact absurd HA.out (by simp[Qbv.l0])
  | succ k1 =>
   have H:=HA.out
   clear HA
   simp only[Qbv.l0]at H
   by_cases c3:x8_1<a1
   ·rw [if_pos c3]at H
    have c3b0:decide (x8_1<a1)=true:=decide_eq_true c3
    clear c3
    by_cases c4:0≤x8_1
    ·rw[if_pos c4]at H
     have c4b0:decide (0≤x8_1)=true:=decide_eq_true c4
     clear c4
     by_cases c5:x8_1<(l0.length:Int)
     ·rw[if_pos c5]at H
      have c5b0:decide (x8_1<(l0.length:Int))=true:=decide_eq_true c5
      clear c5
      obtain⟨ji6,hji6⟩:∃j_:Int,(wrap64 (8*x8_1))=j_:=⟨_,rfl⟩
      replace H:(if 0≤(ji6)then(Qbv.l0 k1 l0 (Go.bits .or .u64 x5_1 (shl .u64 (IntKind.u64.wrap (rd l0 x8_1)) (ji6))) a1 (wrap64 (x8_1+1)))else(none))=some r:=by first |(rw[hji6]at H;exact H) |(simp only[hji6]at H ⊢;exact H)
      have hji6w:(IntKind.i64.wrap (8*x8_1))=ji6:=(Qfm _).trans hji6
      by_cases c7:0≤(ji6)
      ·rw[if_pos c7]at H
       have c7b0:=eq_true c7
       have c7b1:decide (0≤(ji6))=true:=decide_eq_true c7
       clear c7
       obtain⟨ji8,hji8⟩:∃j_:Int,(shl .u64 (IntKind.u64.wrap (rd l0 x8_1)) (ji6))=j_:=⟨_,rfl⟩
       replace H:(Qbv.l0 k1 l0 (Go.bits .or .u64 x5_1 (ji8)) a1 (wrap64 (x8_1+1)))=some r:=by first |(rw[hji8]at H;exact H) |(simp only[hji8]at H ⊢;exact H)
       have hji8_:(IntKind.u64.wrap ((IntKind.u64.wrap (rd l0 x8_1))*2^min (ji6).toNat 64))=ji8:=hji8
       have hji8z:(ji6)≤64→(IntKind.u64.wrap ((IntKind.u64.wrap (rd l0 x8_1))*2^(ji6).toNat))=ji8:=Qhf hji8
       have H':=QA H
       clear H
       have p567:0≤(x8_1:Int):=of_decide_eq_true qq_6
       have q567:x8_1<(l0.length:Int):=of_decide_eq_true qq_6
       obtain⟨ad567,e567,hx567_0⟩:=Kd.at_int HR0.out x8_1 p567 q567
       cases e567
       replace p567:=eq_true p567
       replace q567:=eq_true q567
       go_wp2
       go_roundg k1
       case measure=>have:=HK1.out;omega
       case rel=>exact⟨(Go.bits .or .u64 x5_1 (ji8)),(wrap64 (x8_1+1)),(by first|rfl |(simp;done) |(simp only[← hji8]<;>(first|rfl|simp)) |(simp[*];done)),qq_9,H',⟨by have:=HK1.out;omega⟩,by repeat(first|exact Drawn0.refl _|apply Drawn0.step)⟩
      ·rw[if_neg c7]at H
       exact absurd H (by simp)
     ·rw[if_neg c5]at H
      exact absurd H (by simp)
    ·rw[if_neg c4]at H
     exact absurd H (by simp)
   ·rw[if_neg c3]at H
    have c3b0:decide (x8_1<a1)=false:=decide_eq_false c3
    clear c3
    obtain rfl:=Option.some.inj H
    go_wp2
    go_ret
    exact⟨by first|rfl |(simp;done) |(simp[*];done),by repeat(first|exact Drawn0.refl _|apply Drawn0.step)⟩
def Qao.f(a0:Int)(a1:Int):Option (Int):=if a0=0 then(some 4)else(if a0 > 4096 then(some 3)else(if a1 > 1048576 then(some 3)else(some 0)))
theorem Qao.calls(a0:Int)(a1:Int)(r:Int)(w:World)(h:Qao.f a0 a1=some r) :
  Calls Tryz.prog 192 #[.int .u64 a0,.int .u64 a1] w fun e w'=>e=.returned (.int .i64 r)∧Drawn0 w w':=by
 have H:(if a0=0 then(some 4)else(if a0 > 4096 then(some 3)else(if a1 > 1048576 then(some 3)else(some 0))))=some r:=h
 clear h
 by_cases c3:a0=0
 ·rw[if_pos c3]at H
  have c3b0:(a0 == 0)=true:=beq_iff_eq.mpr c3
  have c3b1:(a0 != 0)=false:=bne_eq_false_iff_eq.mpr c3
  clear c3
  obtain rfl:=Option.some.inj H
  go_enter Tryz.func192,Tryz.ntmps192
  go_wp2
  go_ret
  exact⟨by first|rfl |(simp;done) |(simp[*];done),by repeat(first|exact Drawn0.refl _|apply Drawn0.step)⟩
 ·rw[if_neg c3]at H
  have c3b0:(a0 == 0)=false:=beq_eq_false_iff_ne.mpr c3
  have c3b1:(a0 != 0)=true:=bne_iff_ne.mpr c3
  by_cases c4:a0 > 4096
  ·rw[if_pos c4]at H
   have c4b0:decide (4096<a0)=true:=decide_eq_true c4
   clear c4
   obtain rfl:=Option.some.inj H
   go_enter Tryz.func192,Tryz.ntmps192
   go_wp2
   go_ret
   exact⟨by first|rfl |(simp;done) |(simp[*];done),by repeat(first|exact Drawn0.refl _|apply Drawn0.step)⟩
  ·rw[if_neg c4]at H
   have c4b0:decide (4096<a0)=false:=decide_eq_false c4
   clear c4
   by_cases c5:a1 > 1048576
   ·rw[if_pos c5]at H
    have c5b0:decide (1048576<a1)=true:=decide_eq_true c5
    clear c5
    obtain rfl:=Option.some.inj H
    go_enter Tryz.func192,Tryz.ntmps192
    go_wp2
    go_ret
    exact⟨by first|rfl |(simp;done) |(simp[*];done),by repeat(first|exact Drawn0.refl _|apply Drawn0.step)⟩
   ·rw[if_neg c5]at H
    have c5b0:decide (1048576<a1)=false:=decide_eq_false c5
    clear c5
    obtain rfl:=Option.some.inj H
    go_enter Tryz.func192,Tryz.ntmps192
    go_wp2
    go_ret
    exact⟨by first|rfl |(simp;done) |(simp[*];done),by repeat(first|exact Drawn0.refl _|apply Drawn0.step)⟩
def Qac.f(a0:Int)(a1:Int):Option (Int):=if 0≤(Go.bits .and .u64 (IntKind.u64.wrap (a1)) 31)then(if 0≤(IntKind.u64.wrap (32-(Go.bits .and .u64 (IntKind.u64.wrap (a1)) 31)))then(some (Go.bits .or .u32 (shl .u32 a0 (Go.bits .and .u64 (IntKind.u64.wrap (a1)) 31)) (shr .u32 a0 (IntKind.u64.wrap (32-(Go.bits .and .u64 (IntKind.u64.wrap (a1)) 31))))))else(none))else(none)
theorem Qac.calls(a0:Int)(a1:Int)(r:Int)(w:World)(h:Qac.f a0 a1=some r) :
  Calls Tryz.prog 234 #[.int .u32 a0,.int .i64 a1] w fun e w'=>e=.returned (.int .u32 r)∧Drawn0 w w':=by
 have H:(if 0≤(Go.bits .and .u64 (IntKind.u64.wrap (a1)) 31)then(if 0≤(IntKind.u64.wrap (32-(Go.bits .and .u64 (IntKind.u64.wrap (a1)) 31)))then(some (Go.bits .or .u32 (shl .u32 a0 (Go.bits .and .u64 (IntKind.u64.wrap (a1)) 31)) (shr .u32 a0 (IntKind.u64.wrap (32-(Go.bits .and .u64 (IntKind.u64.wrap (a1)) 31))))))else(none))else(none))=some r:=h
 clear h
 obtain⟨ji3,hji3⟩:∃j_:Int,(Go.bits .and .u64 (IntKind.u64.wrap (a1)) 31)=j_:=⟨_,rfl⟩
 replace H:(if 0≤(ji3)then(if 0≤(IntKind.u64.wrap (32-(ji3)))then(some (Go.bits .or .u32 (shl .u32 a0 (ji3)) (shr .u32 a0 (IntKind.u64.wrap (32-(ji3))))))else(none))else(none))=some r:=by first |(rw[hji3]at H;exact H) |(simp only[hji3]at H ⊢;exact H)
 by_cases c4:0≤(ji3)
 ·rw[if_pos c4]at H
  have c4b0:=eq_true c4
  have c4b1:decide (0≤(ji3))=true:=decide_eq_true c4
  clear c4
  obtain⟨ji5,hji5⟩:∃j_:Int,(shl .u32 a0 (ji3))=j_:=⟨_,rfl⟩
  replace H:(if 0≤(IntKind.u64.wrap (32-(ji3)))then(some (Go.bits .or .u32 (ji5) (shr .u32 a0 (IntKind.u64.wrap (32-(ji3))))))else(none))=some r:=by first |(rw[hji5]at H;exact H) |(simp only[hji5]at H ⊢;exact H)
  have hji5_:(IntKind.u32.wrap (a0*2^min (ji3).toNat 32))=ji5:=hji5
  have hji5z:(ji3)≤32→(IntKind.u32.wrap (a0*2^(ji3).toNat))=ji5:=Qhf hji5
  obtain⟨ji6,hji6⟩:∃j_:Int,(IntKind.u64.wrap (32-(ji3)))=j_:=⟨_,rfl⟩
  replace H:(if 0≤(ji6)then(some (Go.bits .or .u32 (ji5) (shr .u32 a0 (ji6))))else(none))=some r:=by first |(rw[hji6]at H;exact H) |(simp only[hji6]at H ⊢;exact H)
  by_cases c7:0≤(ji6)
  ·rw[if_pos c7]at H
   have c7b0:=eq_true c7
   have c7b1:decide (0≤(ji6))=true:=decide_eq_true c7
   clear c7
   obtain⟨ji8,hji8⟩:∃j_:Int,(shr .u32 a0 (ji6))=j_:=⟨_,rfl⟩
   replace H:(some (Go.bits .or .u32 (ji5) (ji8)))=some r:=by first |(rw[hji8]at H;exact H) |(simp only[hji8]at H ⊢;exact H)
   have hji8_:(a0/2^min (ji6).toNat 32)=ji8:=hji8
   have hji8z:(ji6)≤32→(a0/2^(ji6).toNat)=ji8:=Qhg hji8
   obtain rfl:=Option.some.inj H
   go_enter Tryz.func234,Tryz.ntmps234
   go_wp2
   go_ret
   exact⟨by first|rfl |(simp;done) |(simp only[← hji3,← hji5,← hji6,← hji8]<;>(first|rfl|simp)) |(simp[*];done),by repeat(first|exact Drawn0.refl _|apply Drawn0.step)⟩
  ·rw[if_neg c7]at H
   exact absurd H (by simp)
 ·rw[if_neg c4]at H
  exact absurd H (by simp)
end Go.Proofs.YtnnofopfbeklbaaGreat.C
end
