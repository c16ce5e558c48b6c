/- Texts of this claim's author and of the print of its functions, merged by merge.py. -/
import Derived.Test.YtnnofopfbeklbaaGreatMH00
import Derived.Test.YtnnofopfbeklbaaGreatMH01
import Derived.Test.YtnnofopfbeklbaaGreatProg
import Derived.Below
import Derived.Deep.Draws
import Derived.Deep.AppendLies
import Derived.Maps.AppendAt
import Derived.OwnWalk
import Derived.Laws.BytesArg
import Derived.Laws.MakeOwn
import Derived.Laws.OwnMore
import Derived.Deep.OwnRows
import Derived.Tactics
import Derived.Lib.ConvBytes
import Derived.Laws.Slices
import Derived.WalkKit
import Derived.KernelRfl
import Derived.RowKit3
import Derived.Deep.LoopGhost
import Derived.Deep.QuietTactic
import Derived.BigQuiet
import Derived.WideLaws
import Derived.Deep.DeepCutAuto
import Derived.Deep.CutBlock
import Derived.Deep.RegionHeld3
import Derived.Laws.Rows
import Derived.Lib.AppendStr
import Derived.ArgAppend
import Derived.Laws.IdiomCopy
import Derived.OrdersHeld
import Derived.Laws.BitsLemmas
import Derived.RowKit
set_option linter.unusedVariables false
set_option linter.unusedSimpArgs false
set_option maxHeartbeats 8000000
set_option maxRecDepth 100000
section
namespace Go.Proofs.YtnnofopfbeklbaaGreatW.PrintMore
open Go.RowKit Go.Proofs.YtnnofopfbeklbaaGreatW.PrintWords
namespace Kd
open Go.Proofs.YtnnofopfbeklbaaGreatW.PrintWords.Kd
end Kd
namespace Kd
open Go.Proofs.YtnnofopfbeklbaaGreatW.PrintWords.Kd
section
variable {α:Type} {d:Kd α} {e base g N:Nat} {ok:Nat→Prop} {W w1:World} {u v:Value} {xs:List α}
end
end Kd
theorem Qif(k k':IntKind)(x y:Int):Builtin.max2 (.int k x) (.int k' y)=pure (.int k (if x<y then y else x)):=by simp only[Builtin.max2,gt_iff_lt]
theorem Qig(k k':IntKind)(x y:Int):Builtin.min2 (.int k x) (.int k' y)=pure (.int k (if y<x then y else x)):=by simp only[Builtin.min2]
theorem Qih(ats:Array TypeId)(ty:TypeId)(a b:Value):Builtin.max_ ats ty #[a,b]=(Builtin.max2 a b >>= fun s=>pure s):=by simp only[Builtin.max_,List.foldlM_cons,List.foldlM_nil]
theorem Qii(ats:Array TypeId)(ty:TypeId)(a b:Value):Builtin.min_ ats ty #[a,b]=(Builtin.min2 a b >>= fun s=>pure s):=by simp only[Builtin.min_,List.foldlM_cons,List.foldlM_nil]
theorem Qij(ats:Array TypeId)(ty:TypeId)(a b c:Value):Builtin.max_ ats ty #[a,b,c]=(Builtin.max2 a b >>= fun s=>Builtin.max2 s c >>= fun s=>pure s):=by simp only[Builtin.max_,List.foldlM_cons,List.foldlM_nil]
theorem Qik(ats:Array TypeId)(ty:TypeId)(a b c:Value):Builtin.min_ ats ty #[a,b,c]=(Builtin.min2 a b >>= fun s=>Builtin.min2 s c >>= fun s=>pure s):=by simp only[Builtin.min_,List.foldlM_cons,List.foldlM_nil]
theorem Qil(ats:Array TypeId)(ty:TypeId)(a b c d:Value):Builtin.max_ ats ty #[a,b,c,d]=(Builtin.max2 a b >>= fun s=>Builtin.max2 s c >>= fun s=>Builtin.max2 s d >>= fun s=>pure s):=by simp only[Builtin.max_,List.foldlM_cons,List.foldlM_nil]
theorem Qim(ats:Array TypeId)(ty:TypeId)(a b c d:Value):Builtin.min_ ats ty #[a,b,c,d]=(Builtin.min2 a b >>= fun s=>Builtin.min2 s c >>= fun s=>Builtin.min2 s d >>= fun s=>pure s):=by simp only[Builtin.min_,List.foldlM_cons,List.foldlM_nil]
end Go.Proofs.YtnnofopfbeklbaaGreatW.PrintMore
namespace Go.Proofs.YtnnofopfbeklbaaGreatW.PrintWords
open Go.RowKit
section
variable {P:Program} {ops:Array Oper} {rest:List Oper} {o:Oper} {a:Act} {Q:Exit→Act→World→Prop} {W:World}
theorem Qin{f:FuncId}{as_:Array Operand}{ts:Array TypeId}(_ho:o.op=.call { callee:=.value (.func f),args:=as_,argTypes:=ts })(h:wpList P ops Q (o :: rest) a W):wpList P ops Q (o :: rest) a W:=h
theorem Qio{b:Builtin}{xs:Array Operand}{ts:Array TypeId}(_ho:o.op=.call { callee:=.builtin b,args:=xs,argTypes:=ts })(h:wpList P ops Q (o :: rest) a W):wpList P ops Q (o :: rest) a W:=h
end
def mx(a b:Int):Int:=if a<b then b else a
def shl(k:IntKind)(x y:Int):Int:=k.wrap (x*2^min y.toNat k.bits)
def shr(k:IntKind)(x y:Int):Int:=x/2^min y.toNat k.bits
theorem Qip{k:IntKind}{x y j:Int}(h:shl k x y=j)(hy:y≤k.bits):k.wrap (x*2^y.toNat)=j:=by rw[← h];unfold shl;rw[Nat.min_eq_left (by omega)]
theorem Qiq{k:IntKind}{x y j:Int}(h:shr k x y=j)(hy:y≤k.bits):x/2^y.toNat=j:=by rw[← h];unfold shr;rw[Nat.min_eq_left (by omega)]
namespace Kd
section
variable {α:Type} {d:Kd α} {e base:Nat} {ok:Nat→Prop} {W w1:World} {v:Value} {xs:List α}
end
section
variable {α:Type} {d:Kd α} {e base g n cap:Nat} {ok oki okp:Nat→Prop} {W:World} {xs:List α} {i:Int} {c:List Value}
end
section
variable {α:Type} {d:Kd α} {e base b b' g N:Nat} {ok ok1:Nat→Prop} {W W2 w1:World} {u v:Value} {xs ys:List α} {S:Nat→Prop}
end
end Kd
end Go.Proofs.YtnnofopfbeklbaaGreatW.PrintWords
namespace Go.Proofs.YtnnofopfbeklbaaGreatW.PrintWords
open Go.RowKit
namespace Kd
def V{α:Type}(d:Kd α)(_e:Nat)(W:World)(_base:Nat)(ok:Nat→Prop)(v:Value)(xs:List α):Prop:=∃A c,v=.slice A xs.length c∧xs.length≤c∧F d W ok A xs.length xs
section
variable {α β:Type} {d:Kd α} {e base base' n m c g N' lo hi:Nat} {ok ok' S:Nat→Prop} {w W w1:World} {A:Option Addr} {ad:Addr} {u v v1:Value} {xs:List α}
theorem Qir(h:V d e W base ok v xs)(hF:∀A,F d W ok A xs.length xs→F d w1 ok' A xs.length xs):V d e w1 base' ok' v xs:=by
  obtain⟨A,c,hv,hl,hf⟩:=h
  exact⟨A,c,hv,hl,hF A hf⟩
theorem V_mk(hl:xs.length≤c)(hf:F d W ok A xs.length xs):V d e W base ok (.slice A xs.length c) xs:=⟨A,c,rfl,hl,hf⟩
theorem V_slice(h:V d e W base ok v xs):∃A c,v=.slice A xs.length c:=by
  obtain⟨A,c,hv,_⟩:=h
  exact⟨A,c,hv⟩
theorem V_at(h:V d e W base ok (.slice A n c) xs):n=xs.length∧n≤c∧F d W ok A xs.length xs:=by
  obtain⟨A',c',hv,hl,hf⟩:=h
  injection hv with ha hn hc
  subst ha;subst hc
  exact⟨hn,by rw[hn];exact hl,hf⟩
theorem V_reads'(h:V d e W base ok (.slice A n c) xs):n=xs.length∧n≤c∧d.C W A xs.length xs:=⟨(V_at h).1,(V_at h).2.1,F_now (V_at h).2.2⟩
theorem V_mono(h:V d e W base ok v xs)(hok:∀k,ok k→ok' k):V d e W base ok' v xs:=Qir h (fun _ hf=>Qhz hf hok)
theorem V_drewN(h:V d e W base ok v xs)(m:Nat):V d e (W.drewN m) base ok v xs:=Qir h (fun _ hf=>F_drewN hf m)
theorem V_after(h:V d e W base (fun k=>ok k∧some k≠u.ownBlock) v xs)(hg:W.grownBy w1 u.ownBlock)(hat:v1.ownBlock=u.ownBlock∨∃b,v1.ownBlock=some b∧W.heap.size≤b):V d e w1 base (fun k=>ok k∧some k≠v1.ownBlock) v xs:=Qir h (fun _ hf=>F_after hf hg hat)
theorem V_afterv(h:V d e W base (fun k=>ok k∧some k≠v.ownBlock) u xs)(hg:W.grownBy w1 v.ownBlock)(hat:v1.ownBlock=v.ownBlock∨∃b,v1.ownBlock=some b∧W.heap.size≤b):V d e w1 base (fun k=>ok k∧some k≠v1.ownBlock) u xs:=V_after h hg hat
theorem V_elder'(h:V d e W base ok v xs)(hbase:∀k,u.ownBlock=some k→W.heap.size≤k)(hb:Below W.heap.size W w1):V d e w1 base (fun k=>ok k∧some k≠u.ownBlock) v xs:=Qir h (fun _ hf=>Qia hf hbase hb)
theorem F_cut(h:F d W ok A xs.length xs)(hm:m≤xs.length)(hc:xs.length≤c):F d W ok (if c=m then A else A.map (·.add (m*d.sz))) (xs.drop m).length (xs.drop m):=F_imp h (fun _ hC=>C_drop hC hm hc)
theorem F_mid(h:F d W ok A xs.length xs)(h1:lo≤hi)(h2:hi≤xs.length)(hc:xs.length≤c):F d W ok (if c=lo then A else A.map (·.add (lo*d.sz))) ((xs.take hi).drop lo).length ((xs.take hi).drop lo):=F_imp h (fun _ hC=>C_mid hC h1 h2 hc)
theorem R_newM{M:Nat→Prop}(h:d.R e w1 W.heap.size ok v xs)(hle:w.heap.size≤W.heap.size)(hM:∀k,w.heap.size≤k→M k):d.R e w1 W.heap.size (fun k=>M k∧ok k) v xs:=R_mono (R_bound h) (fun k hk=>⟨hM k (Nat.le_trans hle hk.2.1),hk.1⟩)
end
end Kd
end Go.Proofs.YtnnofopfbeklbaaGreatW.PrintWords
end
section
namespace Go.Proofs.YtnnofopfbeklbaaGreat.C
open Go.RowKit Go.Proofs.YtnnofopfbeklbaaGreatW.PrintWords Go.Proofs.YtnnofopfbeklbaaGreatW.PrintLast Go.Proofs.YtnnofopfbeklbaaGreatW.PrintMore
attribute [local go_sem] Qif Qig Qih Qii Qij Qik Qil Qim
def errW:Option Int→Value
 | none=>.nilIface
 | some c=>.iface 0 (.int .i64 c)
theorem Qis:errW none=.nilIface:=rfl
theorem Qit(c:Int):errW (some c)=.iface 0 (.int .i64 c):=rfl
theorem Qiu:(Tryz.prog.info? 5).map (fun i=>(i.zero,i.size,i.bytes))=some (some (.int .u8 0),1,1):=by kernel_rfl
theorem info22:(Tryz.prog.info? 22).map (fun i=>(i.zero,i.size,i.bytes))=some (some (.int .u32 0),1,4):=by kernel_rfl
theorem Qiv:(Tryz.prog.info? 34).map (fun i=>(i.zero,i.size,i.bytes))=some (some (.int .u64 0),1,8):=by kernel_rfl
theorem Qiw:(Tryz.prog.info? 39).map (fun i=>(i.zero,i.size,i.bytes))=some (some (.agg #[(.bool false),(.int .u64 0),(.string ⟨#[]⟩),(.string ⟨#[]⟩)]),4,48):=by kernel_rfl
theorem Qix:(Tryz.prog.info? 122).map (fun i=>(i.zero,i.size,i.bytes))=some (some (.agg #[(.int .u64 0),(.int .u32 0)]),2,16):=by kernel_rfl
structure S39 where
  f0:Bool
  f1:Int
  f2:ByteArray
  f3:ByteArray
def z39:S39:=⟨false,(0:Int),(⟨#[]⟩:ByteArray),(⟨#[]⟩:ByteArray)⟩
def k39:Kd S39:=Kd.iso (Kd.pair Kd.bool (Kd.pair (Kd.int .u64) (Kd.pair Kd.string Kd.string))) (fun x:S39=>(x.f0,x.f1,x.f2,x.f3))
theorem Qiy{w:World}{x:S39}{cs:List Value}(h:k39.K w x cs):cs=[.bool x.f0,.int .u64 x.f1,.string x.f2,.string x.f3]:=by
 obtain⟨_,_,rfl,rfl,⟨_,_,rfl,rfl,⟨_,_,rfl,rfl,rfl⟩⟩⟩:=h
 exact rfl
theorem Qiz(w:World)(base:Nat)(ok:Nat→Prop)(x:S39)  : k39.M w base ok x [.bool x.f0,.int .u64 x.f1,.string x.f2,.string x.f3]:=⟨[.bool x.f0],[.int .u64 x.f1,.string x.f2,.string x.f3],rfl,rfl,⟨[.int .u64 x.f1],[.string x.f2,.string x.f3],rfl,rfl,⟨[.string x.f2],[.string x.f3],rfl,rfl,rfl⟩⟩⟩
def Qja(xs:List S39)(i:Int):S39:=xs.getD i.toNat z39
theorem Qjb{w:World}{A:Option Addr}{n:Nat}{xs:List S39}(h:Kd.C k39 w A n xs)(i:Int)(h0:0≤i)(h1:i<n):∃ad , A=some ad∧w.cell? (ad.add (i.toNat*4))=some (.bool (Qja xs i).f0)∧w.cell? ⟨(ad.add (i.toNat*4)).block,(ad.add (i.toNat*4)).off+1,none⟩=some (.int .u64 (Qja xs i).f1)∧w.cell? ⟨(ad.add (i.toNat*4)).block,(ad.add (i.toNat*4)).off+2,none⟩=some (.string (Qja xs i).f2)∧w.cell? ⟨(ad.add (i.toNat*4)).block,(ad.add (i.toNat*4)).off+3,none⟩=some (.string (Qja xs i).f3):=by
 obtain⟨ad,c,e,_,hK,hc0⟩:=Kd.C_get h z39 i h0 h1
 have hc:∀j u,c[j]? = some u→w.cell? (ad.add (i.toNat*4+j))=some u:=hc0
 obtain rfl:=Qiy hK
 exact⟨ad,e,hc 0 _ rfl,by rw[← Qdn _ _ 1 (by omega)];exact hc 1 _ rfl,by rw[← Qdn _ _ 2 (by omega)];exact hc 2 _ rfl,by rw[← Qdn _ _ 3 (by omega)];exact hc 3 _ rfl⟩
structure S27 where
  f0:Int
  f1:Int
structure S117 where
  f0:Int
  f1:Int
def z117:S117:=⟨(0:Int),(0:Int)⟩
def k117:Kd S117:=Kd.iso (Kd.pair (Kd.int .u64) (Kd.int .u32)) (fun x:S117=>(x.f0,x.f1))
theorem Qjc{w:World}{x:S117}{cs:List Value}(h:k117.K w x cs):cs=[.int .u64 x.f0,.int .u32 x.f1]:=by
 obtain⟨_,_,rfl,rfl,rfl⟩:=h
 exact rfl
theorem Qjd{w:World}{base:Nat}{ok:Nat→Prop}{x:S117}{cs:List Value}(h:k117.M w base ok x cs):cs=[.int .u64 x.f0,.int .u32 x.f1]:=by
 obtain⟨_,_,rfl,rfl,rfl⟩:=h
 exact rfl
theorem Qje(w:World)(base:Nat)(ok:Nat→Prop)(x:S117)  : k117.M w base ok x [.int .u64 x.f0,.int .u32 x.f1]:=⟨[.int .u64 x.f0],[.int .u32 x.f1],rfl,rfl,rfl⟩
def Qjf(xs:List S117)(i:Int):S117:=xs.getD i.toNat z117
theorem Qjg{w:World}{A:Option Addr}{n:Nat}{xs:List S117}(h:Kd.C k117 w A n xs)(i:Int)(h0:0≤i)(h1:i<n):∃ad , A=some ad∧w.cell? (ad.add (i.toNat*2))=some (.int .u64 (Qjf xs i).f0)∧w.cell? ⟨(ad.add (i.toNat*2)).block,(ad.add (i.toNat*2)).off+1,none⟩=some (.int .u32 (Qjf xs i).f1):=by
 obtain⟨ad,c,e,_,hK,hc0⟩:=Kd.C_get h z117 i h0 h1
 have hc:∀j u,c[j]? = some u→w.cell? (ad.add (i.toNat*2+j))=some u:=hc0
 obtain rfl:=Qjc hK
 exact⟨ad,e,hc 0 _ rfl,by rw[← Qdn _ _ 1 (by omega)];exact hc 1 _ rfl⟩
structure S69 where
  f0:Int
  f1:Int
structure S122 where
  f0:Int
  f1:Int
def z122:S122:=⟨(0:Int),(0:Int)⟩
def k122:Kd S122:=Kd.iso (Kd.pair (Kd.int .u64) (Kd.int .u32)) (fun x:S122=>(x.f0,x.f1))
theorem Qjh{w:World}{x:S122}{cs:List Value}(h:k122.K w x cs):cs=[.int .u64 x.f0,.int .u32 x.f1]:=by
 obtain⟨_,_,rfl,rfl,rfl⟩:=h
 exact rfl
theorem Qji(w:World)(base:Nat)(ok:Nat→Prop)(x:S122)  : k122.M w base ok x [.int .u64 x.f0,.int .u32 x.f1]:=⟨[.int .u64 x.f0],[.int .u32 x.f1],rfl,rfl,rfl⟩
def Qjj(xs:List S122)(i:Int):S122:=xs.getD i.toNat z122
theorem Qjk{w:World}{A:Option Addr}{n:Nat}{xs:List S122}(h:Kd.C k122 w A n xs)(i:Int)(h0:0≤i)(h1:i<n):∃ad , A=some ad∧w.cell? (ad.add (i.toNat*2))=some (.int .u64 (Qjj xs i).f0)∧w.cell? ⟨(ad.add (i.toNat*2)).block,(ad.add (i.toNat*2)).off+1,none⟩=some (.int .u32 (Qjj xs i).f1):=by
 obtain⟨ad,c,e,_,hK,hc0⟩:=Kd.C_get h z122 i h0 h1
 have hc:∀j u,c[j]? = some u→w.cell? (ad.add (i.toNat*2+j))=some u:=hc0
 obtain rfl:=Qjh hK
 exact⟨ad,e,hc 0 _ rfl,by rw[← Qdn _ _ 1 (by omega)];exact hc 1 _ rfl⟩
theorem qq_b{b:Nat}{w w':World}(h:Below b w w':=by repeat(first |(with_reducible first|exact HB.out|apply Qcu|apply Qcw|apply Qfo|refine Qfj ?_ (Aside0.out (by assumption)))|exact HB.out)):Below b w w':=h
theorem qq_c{W:World}{g:Nat}{t:TypeId}{cs:Array Value}(v:Value)(h:W.heap[g]? = some (.cells cs t (0,0)))(i:Nat)(hv:cs[i]? = some v):W.cell? ⟨g,i,none⟩=some v:=(Qds h i).trans hv
theorem qq_h{w w':World}(hb:Below w.heap.size w w'){p:Addr}{v:Value}(h:w.cell? p=some v):w'.cell? p=some v:=(hb.cell (World.block_lt_of_cell? w _ h)).trans h
theorem qq_s{w W:World}{g:Nat}(hg:g=W.heap.size)(h:Below w.heap.size w W:=by exact qq_b):w.heap.size≤g:=hg ▸ Qfg h
theorem qq_e{P:Program}{ops:Array Oper}{o:Oper}{rest:List Oper}{a:Act}{Q:Exit→Act→World→Prop}{W:World}(N:Tmp)(cs:Array Value)(t:TypeId)(h:∀g,g=W.heap.size→∀w1,w1.heap[g]? = some (.cells cs t (0,0))→Below W.heap.size W w1→wpList P ops Q rest (a.put o.dst (.pointer (some ⟨g,0,none⟩))) w1)(hgd:o.guard=none:=by rfl)(hd:o.dst=some N:=by rfl)(hrun:(execOp a.eval o).run P W=.ok (.value (.pointer (some ⟨W.heap.size,0,none⟩))) (W.alloc (.cells cs t (0,0))):=by first |(go_simp;done) |(go_simp;rfl)):wpList P ops Q (o :: rest) a W:=Qfq hgd hd hrun h
theorem qq_0{p:Prop}(h:p:=by(with_reducible repeat(first|apply Qeg|apply Qef|apply Qee));exact Aside0.out (by assumption)):p:=h
theorem qq_1{p:Prop}(h:p:=by(try simp only[List.map_toArray,List.map_cons,List.map_nil]);first|done|rfl |(simp only[List.length_drop,List.length_take];rfl)):p:=h
theorem qq_2{p:Prop}(h:p:=by simp only[Act.put,List.setIfInBounds_toArray,List.set_cons_zero,List.set_cons_succ,Qgr,Qgs];rfl):p:=h
theorem qq_3{p:Prop}(h:p:=by(with_reducible repeat(first|apply Kd.R_alloc|apply Kd.R_drewN|apply Kd.R_drew));exact Aside0.out (by assumption)):p:=h
theorem qq_4{p:Prop}(h:p:=by first |(with_reducible assumption)|assumption):p:=h
theorem qq_5{p:Prop}(h:p:=by first|rfl |(simp;done) |(simp[*];done)):p:=h
theorem qq_6{p:Prop}(h:p:=by kernel_rfl):p:=h
theorem qq_7{p:Prop}(h:p:=by first |(simp only[Qgk,Act.put,List.setIfInBounds_toArray,List.set_cons_zero,List.set_cons_succ];done) |(simp only[Qgk,Act.put,List.setIfInBounds_toArray,List.set_cons_zero,List.set_cons_succ];rfl)):p:=h
theorem qq_8{p:Prop}(h:p:=by(with_reducible repeat(first|apply Qeg|apply Qef|apply Qee));refine Qfn (cs:=#[.int .u64 ((Qjj l0 x11_1).f0),.int .u32 0]) ?_ 1 _ rfl;(with_reducible repeat(first|apply Qeg|apply Qef|apply Qee));refine Qfn (cs:=#[.int .u64 0,.int .u32 0]) ?_ 0 _ rfl;(with_reducible repeat(first|apply Qeg|apply Qef|apply Qee));exact BK429.out):p:=h
theorem qq_9{p:Prop}(h:p:=by(repeat(first |(with_reducible first|apply Qeg|apply Qef|apply Qee)|refine Qdq ?_ (Aside0.out (by assumption)) _));exact Aside0.out (by assumption)):p:=h
theorem qq_10{p:Prop}(h:p:=by(with_reducible repeat(first|apply Kd.R_alloc|apply Kd.R_drewN|apply Kd.R_drew));exact(Kd.R_mono (Kd.R_far (p:=⟨gb447,1,none⟩) (Kd.R_far (p:=⟨gb447,0,none⟩) (Kd.R_mono HO_3.out (fun k_ hk=>(⟨hk,hk.2⟩:_∧k_≠gb447))) (fun _ hk=>hk.2) (.int .u64 ((Qjj l0 x8_1).f0))) (fun _ hk=>hk.2) (.int .u32 ((Qjj l0 x8_1).f1))) (fun _ h_=>h_.1))):p:=h
theorem qq_11{p:Prop}(h:p:=by first |(go_simp;done) |(go_simp;rfl)):p:=h
theorem qq_12{p:Prop}(h:p:=by(with_reducible repeat(first|apply Kd.V_alloc|apply Kd.V_drewN|apply Kd.V_drew));exact HO_5.out):p:=h
theorem qq_13{p:Prop}(h:p:=by(with_reducible repeat(first|apply Kd.V_alloc|apply Kd.V_drewN|apply Kd.V_drew));exact HO_0.out):p:=h
theorem qq_14{p:Prop}(h:p:=by(try simp only[List.map_toArray,List.map_cons,List.map_nil]);first|done |(simp only[hji6];rfl)|rfl |(simp only[List.length_drop,List.length_take];rfl)):p:=h
theorem qq_15{p:Prop}(h:p:=by first|rfl |(simp;done) |(simp only[← hji18]<;>(first|rfl|simp)) |(simp[*];done)):p:=h
theorem qq_16{p:Prop}(h:p:=by have:=HN.out;omega):p:=h
theorem qq_17{p:Prop}(h:p:=by(with_reducible repeat(first|apply Kd.V_alloc|apply Kd.V_drewN|apply Kd.V_drew));exact HO574.out):p:=h
theorem qq_18{p:Prop}(h:p:=by rw[ByteArray.size_append];omega):p:=h
theorem qq_19{p:Prop}(h:p:=by rw[List.length_drop];omega):p:=h
theorem qq_20{p:Prop}(h:p:=by rw[World.size_alloc];have:=HBB.out.size;omega):p:=h
theorem qq_21{p:Prop}(h:p:=by have:=HMM.out;omega):p:=h
def Qbm.f(a0_0:Int)(a0_1:Int):Option (Bool):=if a0_0≥12 then(if a0_0≤24 then(if a0_1≥1 then(some (decide (a0_1≤65536)))else(some false))else(some false))else(some false)
theorem Qbm.calls(a0_0:Int)(a0_1:Int)(r:Bool)(w:World)(h:Qbm.f a0_0 a0_1=some r) :
  Calls Tryz.prog 54 #[.agg #[.int .u8 a0_0,.int .u32 a0_1]] w fun e w'=>e=.returned (.bool r)∧Below w.heap.size w w':=by
 have hu27:=Tryz.underlying27
 have HB:=QA (Below.refl w.heap.size w)
 have H:(if a0_0≥12 then(if a0_0≤24 then(if a0_1≥1 then(some (decide (a0_1≤65536)))else(some false))else(some false))else(some false))=some r:=h
 clear h
 by_cases c2:a0_0≥12
 ·rw[if_pos c2]at H
  have c2b0:decide (12≤a0_0)=true:=decide_eq_true c2
  clear c2
  by_cases c3:a0_0≤24
  ·rw[if_pos c3]at H
   have c3b0:decide (a0_0≤24)=true:=decide_eq_true c3
   clear c3
   by_cases c4:a0_1≥1
   ·rw[if_pos c4]at H
    have c4b0:decide (1≤a0_1)=true:=decide_eq_true c4
    clear c4
    obtain rfl:=Option.some.inj H
    go_enter Tryz.func54,Tryz.ntmps54
    go_wp2_with (first |((with_reducible refine Qfs (N:=1) rfl ?_);refine qq_e 1 #[.int .u8 a0_0,.int .u32 a0_1] 27 ?_;intro gb308 hg w5 hbox hb;have n0_:=QA (Qfh qq_b hb);have n1_:=QA (hbox);have n2_:=QA (qq_s hg:w.heap.size≤gb308);have n3_:=n2_;clear HB;have HB:=n0_;have BK308:=n1_;have GW308:=n2_;have GE308:=n3_;clear n0_ n1_ n2_ n3_ hb hbox hg;have hcz6_0:=qq_c (.int .u8 a0_0) BK308.out 0 rfl;have hcz6_1:=qq_c (.int .u32 a0_1) BK308.out 1 rfl;have hfz6_0:=Qdt BK308.out 0;have hfz6_1:=Qdt BK308.out 1))
    go_ret
    exact⟨by first|rfl |(simp[Qis,Qit]<;>rfl) |(simp[*,Qis,Qit]<;>rfl),qq_b⟩
   ·rw[if_neg c4]at H
    have c4b0:decide (1≤a0_1)=false:=decide_eq_false c4
    clear c4
    obtain rfl:=Option.some.inj H
    go_enter Tryz.func54,Tryz.ntmps54
    go_wp2_with (first |((with_reducible refine Qfs (N:=1) rfl ?_);refine qq_e 1 #[.int .u8 a0_0,.int .u32 a0_1] 27 ?_;intro gb308 hg w7 hbox hb;have n0_:=QA (Qfh qq_b hb);have n1_:=QA (hbox);have n2_:=QA (qq_s hg:w.heap.size≤gb308);have n3_:=n2_;clear HB;have HB:=n0_;have BK308:=n1_;have GW308:=n2_;have GE308:=n3_;clear n0_ n1_ n2_ n3_ hb hbox hg;have hcz8_0:=qq_c (.int .u8 a0_0) BK308.out 0 rfl;have hcz8_1:=qq_c (.int .u32 a0_1) BK308.out 1 rfl;have hfz8_0:=Qdt BK308.out 0;have hfz8_1:=Qdt BK308.out 1))
    go_ret
    exact⟨by first|rfl |(simp[Qis,Qit]<;>rfl) |(simp[*,Qis,Qit]<;>rfl),qq_b⟩
  ·rw[if_neg c3]at H
   have c3b0:decide (a0_0≤24)=false:=decide_eq_false c3
   clear c3
   obtain rfl:=Option.some.inj H
   go_enter Tryz.func54,Tryz.ntmps54
   go_wp2_with (first |((with_reducible refine Qfs (N:=1) rfl ?_);refine qq_e 1 #[.int .u8 a0_0,.int .u32 a0_1] 27 ?_;intro gb308 hg w9 hbox hb;have n0_:=QA (Qfh qq_b hb);have n1_:=QA (hbox);have n2_:=QA (qq_s hg:w.heap.size≤gb308);have n3_:=n2_;clear HB;have HB:=n0_;have BK308:=n1_;have GW308:=n2_;have GE308:=n3_;clear n0_ n1_ n2_ n3_ hb hbox hg;have hcz10_0:=qq_c (.int .u8 a0_0) BK308.out 0 rfl;have hcz10_1:=qq_c (.int .u32 a0_1) BK308.out 1 rfl;have hfz10_0:=Qdt BK308.out 0;have hfz10_1:=Qdt BK308.out 1))
   go_ret
   exact⟨by first|rfl |(simp[Qis,Qit]<;>rfl) |(simp[*,Qis,Qit]<;>rfl),qq_b⟩
 ·rw[if_neg c2]at H
  have c2b0:decide (12≤a0_0)=false:=decide_eq_false c2
  clear c2
  obtain rfl:=Option.some.inj H
  go_enter Tryz.func54,Tryz.ntmps54
  go_wp2_with (first |((with_reducible refine Qfs (N:=1) rfl ?_);refine qq_e 1 #[.int .u8 a0_0,.int .u32 a0_1] 27 ?_;intro gb308 hg w11 hbox hb;have n0_:=QA (Qfh qq_b hb);have n1_:=QA (hbox);have n2_:=QA (qq_s hg:w.heap.size≤gb308);have n3_:=n2_;clear HB;have HB:=n0_;have BK308:=n1_;have GW308:=n2_;have GE308:=n3_;clear n0_ n1_ n2_ n3_ hb hbox hg;have hcz12_0:=qq_c (.int .u8 a0_0) BK308.out 0 rfl;have hcz12_1:=qq_c (.int .u32 a0_1) BK308.out 1 rfl;have hfz12_0:=Qdt BK308.out 0;have hfz12_1:=Qdt BK308.out 1))
  go_ret
  exact⟨by first|rfl |(simp[Qis,Qit]<;>rfl) |(simp[*,Qis,Qit]<;>rfl),qq_b⟩
def Qbq.f(a0_0:Int)(a0_1:Int)(a1:Int):Option (Bool):=(Qbm.f a0_0 a0_1).bind fun t563=>(if t563=true then(some (decide (a1<(IntKind.u64.wrap (a0_1)))))else(some false))
theorem Qbq.calls(a0_0:Int)(a0_1:Int)(a1:Int)(r:Bool)(w:World)(h:Qbq.f a0_0 a0_1 a1=some r) :
  Calls Tryz.prog 19 #[.agg #[.int .u8 a0_0,.int .u32 a0_1],.int .u64 a1] w fun e w'=>e=.returned (.bool r)∧Below w.heap.size w w':=by
 have hu27:=Tryz.underlying27
 have HB:=QA (Below.refl w.heap.size w)
 have H:((Qbm.f a0_0 a0_1).bind fun t563=>(if t563=true then(some (decide (a1<(IntKind.u64.wrap (a0_1)))))else(some false)))=some r:=h
 clear h
 replace H:=Option.bind_eq_some_iff.mp H
 obtain⟨t563,A30,H⟩:=H
 replace H:(if t563=true then(some (decide (a1<(IntKind.u64.wrap (a0_1)))))else(some false))=some r:=H
 have A3:=QA A30
 clear A30
 by_cases c4:t563=true
 ·subst c4
  have H1:(some (decide (a1<(IntKind.u64.wrap (a0_1)))))=some r:=by rw[if_pos rfl]at H;exact H
  clear H
  have H:=H1
  clear H1
  obtain rfl:=Option.some.inj H
  go_enter Tryz.func19,Tryz.ntmps19
  go_wp2_with (first |((with_reducible refine Qfs (N:=2) rfl ?_);refine qq_e 2 #[.int .u8 a0_0,.int .u32 a0_1] 27 ?_;intro gb562 hg w5 hbox hb;have n0_:=QA (Qfh qq_b hb);have n1_:=QA (hbox);have n2_:=QA (qq_s hg:w.heap.size≤gb562);have n3_:=n2_;clear HB;have HB:=n0_;have BK562:=n1_;have GW562:=n2_;have GE562:=n3_;clear n0_ n1_ n2_ n3_ hb hbox hg;have hcz6_0:=qq_c (.int .u8 a0_0) BK562.out 0 rfl;have hcz6_1:=qq_c (.int .u32 a0_1) BK562.out 1 rfl;have hfz6_0:=Qdt BK562.out 0;have hfz6_1:=Qdt BK562.out 1) |((with_reducible refine Qin (f:=54) rfl ?_);refine Qgp (some 6) rfl rfl Tryz.func54 qq_6 rfl #[.agg #[.int .u8 a0_0,.int .u32 a0_1]] rfl qq_1 ?_;(with_reducible refine(Qbm.calls a0_0 a0_1 true _ A3.out).mono ?_);rintro e w7 ⟨rfl,hb⟩;refine⟨_,rfl,?_⟩;have n0_:=QA (Qeh (g:=gb562) (o:=.cells #[.int .u8 a0_0,.int .u32 a0_1] 27 (0,0)) qq_0 hb);have n1_:=QA (Qfh qq_b hb);clear BK562 HB;have BK562:=n0_;have HB:=n1_;clear n0_ n1_;(try clear hb);(try clear hb2);(try clear hk);(try clear hi);have hcz8_0:=qq_c (.int .u8 a0_0) BK562.out 0 rfl;have hcz8_1:=qq_c (.int .u32 a0_1) BK562.out 1 rfl;have hfz8_0:=Qdt BK562.out 0;have hfz8_1:=Qdt BK562.out 1))
  go_ret
  exact⟨by first|rfl |(simp[Qis,Qit]<;>rfl) |(simp[*,Qis,Qit]<;>rfl),qq_b⟩
 ·replace c4:=Bool.eq_false_iff.mpr c4
  subst c4
  have H1:(some false)=some r:=by rw[if_neg (show ¬(false=true)by decide)]at H;exact H
  clear H
  have H:=H1
  clear H1
  obtain rfl:=Option.some.inj H
  go_enter Tryz.func19,Tryz.ntmps19
  go_wp2_with (first |((with_reducible refine Qfs (N:=2) rfl ?_);refine qq_e 2 #[.int .u8 a0_0,.int .u32 a0_1] 27 ?_;intro gb562 hg w9 hbox hb;have n0_:=QA (Qfh qq_b hb);have n1_:=QA (hbox);have n2_:=QA (qq_s hg:w.heap.size≤gb562);have n3_:=n2_;clear HB;have HB:=n0_;have BK562:=n1_;have GW562:=n2_;have GE562:=n3_;clear n0_ n1_ n2_ n3_ hb hbox hg;have hcz10_0:=qq_c (.int .u8 a0_0) BK562.out 0 rfl;have hcz10_1:=qq_c (.int .u32 a0_1) BK562.out 1 rfl;have hfz10_0:=Qdt BK562.out 0;have hfz10_1:=Qdt BK562.out 1) |((with_reducible refine Qin (f:=54) rfl ?_);refine Qgp (some 6) rfl rfl Tryz.func54 qq_6 rfl #[.agg #[.int .u8 a0_0,.int .u32 a0_1]] rfl qq_1 ?_;(with_reducible refine(Qbm.calls a0_0 a0_1 false _ A3.out).mono ?_);rintro e w11 ⟨rfl,hb⟩;refine⟨_,rfl,?_⟩;have n0_:=QA (Qeh (g:=gb562) (o:=.cells #[.int .u8 a0_0,.int .u32 a0_1] 27 (0,0)) qq_0 hb);have n1_:=QA (Qfh qq_b hb);clear BK562 HB;have BK562:=n0_;have HB:=n1_;clear n0_ n1_;(try clear hb);(try clear hb2);(try clear hk);(try clear hi)))
  go_ret
  exact⟨by first|rfl |(simp[Qis,Qit]<;>rfl) |(simp[*,Qis,Qit]<;>rfl),qq_b⟩
def Qay.l0:Nat→ByteArray→Int→Int→Option (Int)
 | 0,_,_,_=>none
 | k+1,x0,x3,x4=>if x4≥0 then(if 0≤x4 then(if x4<(x0.size:Int)then(Qay.l0 k x0 (IntKind.u64.wrap ((IntKind.u64.wrap (x3*256))+(IntKind.u64.wrap (bt x0 x4)))) (wrap64 (x4-1)))else(none))else(none))else(some x3)
def Qay.f(k:Nat)(a0:ByteArray):Option (Int):=Qay.l0 k a0 0 (wrap64 ((a0.size:Int)-1))
theorem Qay.mono_l:∀k,(∀y0 y1 y2,LeO (Qay.l0 k y0 y1 y2) (Qay.l0 (k+1) y0 y1 y2))
 | 0=>fun _ _ _ r h=>by simp[Qay.l0]at h
 | k+1=>by
  have ih0:=Qay.mono_l k
  ·intro y0 y1 y2
   unfold Qay.l0
   repeat' first
   |(with_reducible exact ih0 _ _ _)
   |(with_reducible exact LeO.refl _)
   |(with_reducible exact LeO.none _)
   |(with_reducible refine LeO.ite ?_ ?_)
   |(with_reducible refine LeO.bind ?_ (fun _=>?_))
   | exact ih0 _ _ _
   | exact LeO.none _
   | refine LeO.ite ?_ ?_
   | refine LeO.bind ?_ (fun _=>?_)
theorem Qay.mono:∀a0 k,LeO (Qay.f k a0) (Qay.f (k+1) a0):=by
 intro a0 k
 have ih0:=Qay.mono_l k
 unfold Qay.f
 repeat' first
   |(with_reducible exact ih0 _ _ _)
   |(with_reducible exact LeO.refl _)
   |(with_reducible exact LeO.none _)
   |(with_reducible refine LeO.ite ?_ ?_)
   |(with_reducible refine LeO.bind ?_ (fun _=>?_))
   | exact ih0 _ _ _
   | exact LeO.none _
   | refine LeO.ite ?_ ?_
   | refine LeO.bind ?_ (fun _=>?_)
theorem Qay.calls(k:Nat)(a0:ByteArray)(r:Int)(w:World)(h:Qay.f k a0=some r) :
  Calls Tryz.prog 107 #[.string a0] w fun e w'=>e=.returned (.int .u64 r)∧Drawn0 w w':=by
 have H:(Qay.l0 k a0 0 (wrap64 ((a0.size:Int)-1)))=some r:=h
 clear h
 have H':=QA H
 clear H
 go_enter Tryz.func107,Tryz.ntmps107
 go_wp2
 go_loopg [3,4] k (fun kq v3 v4 w'=>∃(x3_1:Int) (x4_1:Int),v3=.int .u64 x3_1∧v4=.int .i64 x4_1∧Aside0 (Qay.l0 kq a0 x3_1 x4_1=some r)∧Aside0 (kq≤k)∧Drawn0 w w')
 case atStart=>exact⟨(0),(wrap64 ((a0.size:Int)-1)),qq_5,qq_5,H',⟨Nat.le_refl _⟩,by repeat(first|exact Drawn0.refl _|apply Drawn0.step)⟩
 case round =>
  clear H'
  obtain⟨x3_1,x4_1,rfl,rfl,HA,HK1,⟨m1,rfl⟩⟩:=hrel
  cases gk with
  | zero=>exact absurd HA.out (by simp[Qay.l0])
  | succ k1 =>
   have H:=HA.out
   clear HA
   simp only[Qay.l0]at H
   by_cases c2:x4_1≥0
   ·rw[if_pos c2]at H
    have c2b0:decide (0≤x4_1)=true:=decide_eq_true c2
    clear c2
    by_cases c3:0≤x4_1
    ·rw[if_pos c3]at H
     have c3b0:decide (0≤x4_1)=true:=decide_eq_true c3
     clear c3
     by_cases c4:x4_1<(a0.size:Int)
     ·rw[if_pos c4]at H
      have c4b0:decide (x4_1<(a0.size:Int))=true:=decide_eq_true c4
      clear c4
      have H':=QA H
      clear H
      have p5:0≤(x4_1:Int):=of_decide_eq_true qq_4
      have q5:x4_1<(a0.size:Int):=of_decide_eq_true qq_4
      have hx5:=Qct a0 x4_1
      replace p5:=eq_true p5
      replace q5:=eq_true q5
      go_wp2
      go_roundg k1
      case measure=>have:=HK1.out;omega
      case rel=>exact⟨(IntKind.u64.wrap ((IntKind.u64.wrap (x3_1*256))+(IntKind.u64.wrap (bt a0 x4_1)))),(wrap64 (x4_1-1)),qq_5,qq_5,H',⟨by have:=HK1.out;omega⟩,by repeat(first|exact Drawn0.refl _|apply Drawn0.step)⟩
     ·rw[if_neg c4]at H
      exact absurd H (by simp)
    ·rw[if_neg c3]at H
     exact absurd H (by simp)
   ·rw[if_neg c2]at H
    have c2b0:decide (0≤x4_1)=false:=decide_eq_false c2
    clear c2
    obtain rfl:=Option.some.inj H
    go_wp2
    go_ret
    exact⟨by first|rfl |(simp;done) |(simp[*];done),by repeat(first|exact Drawn0.refl _|apply Drawn0.step)⟩
def Qbh.l0:Nat→Int→Int→Int→Option (Int)
 | 0,_,_,_=>none
 | k+1,x0,x6,x7=>if x7<x6 then(Qbh.l0 k (IntKind.u64.wrap ((IntKind.u64.wrap (2*x0))+(IntKind.u64.wrap (Int.tdiv x0 9223372036854775808)))) x6 (wrap64 (x7+1)))else(some x0)
def Qbh.f(k:Nat)(a0:Int)(a1:Int):Option (Int):=Qbh.l0 k a0 a1 0
theorem Qbh.mono_l:∀k,(∀y0 y1 y2,LeO (Qbh.l0 k y0 y1 y2) (Qbh.l0 (k+1) y0 y1 y2))
 | 0=>fun _ _ _ r h=>by simp[Qbh.l0]at h
 | k+1=>by
  have ih0:=Qbh.mono_l k
  ·intro y0 y1 y2
   unfold Qbh.l0
   repeat' first
   |(with_reducible exact ih0 _ _ _)
   |(with_reducible exact LeO.refl _)
   |(with_reducible exact LeO.none _)
   |(with_reducible refine LeO.ite ?_ ?_)
   |(with_reducible refine LeO.bind ?_ (fun _=>?_))
   | exact ih0 _ _ _
   | exact LeO.none _
   | refine LeO.ite ?_ ?_
   | refine LeO.bind ?_ (fun _=>?_)
theorem Qbh.mono:∀a0 a1 k,LeO (Qbh.f k a0 a1) (Qbh.f (k+1) a0 a1):=by
 intro a0 a1 k
 have ih0:=Qbh.mono_l k
 unfold Qbh.f
 repeat' first
   |(with_reducible exact ih0 _ _ _)
   |(with_reducible exact LeO.refl _)
   |(with_reducible exact LeO.none _)
   |(with_reducible refine LeO.ite ?_ ?_)
   |(with_reducible refine LeO.bind ?_ (fun _=>?_))
   | exact ih0 _ _ _
   | exact LeO.none _
   | refine LeO.ite ?_ ?_
   | refine LeO.bind ?_ (fun _=>?_)
theorem Qbh.calls(k:Nat)(a0:Int)(a1:Int)(r:Int)(w:World)(h:Qbh.f k a0 a1=some r) :
  Calls Tryz.prog 108 #[.int .u64 a0,.int .i64 a1] w fun e w'=>e=.returned (.int .u64 r)∧Drawn0 w w':=by
 have H:(Qbh.l0 k a0 a1 0)=some r:=h
 clear h
 have H':=QA H
 clear H
 go_enter Tryz.func108,Tryz.ntmps108
 go_wp2
 go_loopg [0,7] k (fun kq v0 v7 w'=>∃(x0_1:Int) (x7_1:Int),v0=.int .u64 x0_1∧v7=.int .i64 x7_1∧Aside0 (Qbh.l0 kq x0_1 a1 x7_1=some r)∧Aside0 (kq≤k)∧Drawn0 w w')
 case atStart=>exact⟨(a0),(0),qq_5,qq_5,H',⟨Nat.le_refl _⟩,by repeat(first|exact Drawn0.refl _|apply Drawn0.step)⟩
 case round =>
  clear H'
  obtain⟨x0_1,x7_1,rfl,rfl,HA,HK1,⟨m1,rfl⟩⟩:=hrel
  cases gk with
  | zero=>exact absurd HA.out (by simp[Qbh.l0])
  | succ k1 =>
   have H:=HA.out
   clear HA
   simp only[Qbh.l0]at H
   by_cases c3:x7_1<a1
   ·rw[if_pos c3]at H
    have c3b0:decide (x7_1<a1)=true:=decide_eq_true c3
    clear c3
    have H':=QA H
    clear H
    go_wp2
    go_roundg k1
    case measure=>have:=HK1.out;omega
    case rel=>exact⟨(IntKind.u64.wrap ((IntKind.u64.wrap (2*x0_1))+(IntKind.u64.wrap (Int.tdiv x0_1 9223372036854775808)))),(wrap64 (x7_1+1)),qq_5,qq_5,H',⟨by have:=HK1.out;omega⟩,by repeat(first|exact Drawn0.refl _|apply Drawn0.step)⟩
   ·rw[if_neg c3]at H
    have c3b0:decide (x7_1<a1)=false:=decide_eq_false c3
    clear c3
    obtain rfl:=Option.some.inj H
    go_wp2
    go_ret
    exact⟨by first|rfl |(simp;done) |(simp[*];done),by repeat(first|exact Drawn0.refl _|apply Drawn0.step)⟩
def Qbf.f(k:Nat)(a0:Int)(a1:Int):Option (Int):=(Qbh.f k (IntKind.u64.wrap (a0+(IntKind.u64.wrap (a1*14029467366897019727)))) 31).bind fun t271=>(some (IntKind.u64.wrap (t271*11400714785074694791)))
theorem Qbf.mono:∀a0 a1 k,LeO (Qbf.f k a0 a1) (Qbf.f (k+1) a0 a1):=by
 intro a0 a1 k
 unfold Qbf.f
 repeat' first
   |(with_reducible exact Qbh.mono _ _ _)
   |(with_reducible exact LeO.refl _)
   |(with_reducible exact LeO.none _)
   |(with_reducible refine LeO.ite ?_ ?_)
   |(with_reducible refine LeO.bind ?_ (fun _=>?_))
   | exact Qbh.mono _ _ _
   | exact LeO.none _
   | refine LeO.ite ?_ ?_
   | refine LeO.bind ?_ (fun _=>?_)
theorem Qbf.calls(k:Nat)(a0:Int)(a1:Int)(r:Int)(w:World)(h:Qbf.f k a0 a1=some r) :
  Calls Tryz.prog 106 #[.int .u64 a0,.int .u64 a1] w fun e w'=>e=.returned (.int .u64 r)∧Drawn0 w w':=by
 have H:((Qbh.f k (IntKind.u64.wrap (a0+(IntKind.u64.wrap (a1*14029467366897019727)))) 31).bind fun t271=>(some (IntKind.u64.wrap (t271*11400714785074694791))))=some r:=h
 clear h
 replace H:=Option.bind_eq_some_iff.mp H
 obtain⟨t271,A30,H⟩:=H
 replace H:(some (IntKind.u64.wrap (t271*11400714785074694791)))=some r:=H
 have A3:=QA A30
 clear A30
 obtain rfl:=Option.some.inj H
 go_enter Tryz.func106,Tryz.ntmps106
 go_wp2_with (first |((with_reducible refine Qin (f:=108) rfl ?_);refine Qgp (some 9) rfl rfl Tryz.func108 qq_6 rfl #[.int .u64 (IntKind.u64.wrap (a0+(IntKind.u64.wrap (a1*14029467366897019727)))),.int .i64 31] rfl qq_1 ?_;(with_reducible refine(Qbh.calls k (IntKind.u64.wrap (a0+(IntKind.u64.wrap (a1*14029467366897019727)))) 31 t271 _ A3.out).mono ?_);rintro e w' ⟨rfl,⟨nd,rfl⟩⟩;refine⟨_,rfl,?_⟩))
 go_ret
 exact⟨by first|rfl |(simp;done) |(simp[*];done),by repeat(first|exact Drawn0.refl _|apply Drawn0.step)⟩
def Qbg.l0:Nat→Int→Int→Int→Int→Option (Int)
 | 0,_,_,_,_=>none
 | k+1,x0,x5,x7,x8=>if x8<x7 then(Qbg.l0 k x0 (IntKind.u64.wrap (Int.tdiv x5 2)) x7 (wrap64 (x8+1)))else(some (Go.bits .xor .u64 x0 x5))
def Qbg.f(k:Nat)(a0:Int)(a1:Int):Option (Int):=Qbg.l0 k a0 a0 a1 0
theorem Qbg.mono_l:∀k,(∀y0 y1 y2 y3,LeO (Qbg.l0 k y0 y1 y2 y3) (Qbg.l0 (k+1) y0 y1 y2 y3))
 | 0=>fun _ _ _ _ r h=>by simp[Qbg.l0]at h
 | k+1=>by
  have ih0:=Qbg.mono_l k
  ·intro y0 y1 y2 y3
   unfold Qbg.l0
   repeat' first
   |(with_reducible exact ih0 _ _ _ _)
   |(with_reducible exact LeO.refl _)
   |(with_reducible exact LeO.none _)
   |(with_reducible refine LeO.ite ?_ ?_)
   |(with_reducible refine LeO.bind ?_ (fun _=>?_))
   | exact ih0 _ _ _ _
   | exact LeO.none _
   | refine LeO.ite ?_ ?_
   | refine LeO.bind ?_ (fun _=>?_)
theorem Qbg.mono:∀a0 a1 k,LeO (Qbg.f k a0 a1) (Qbg.f (k+1) a0 a1):=by
 intro a0 a1 k
 have ih0:=Qbg.mono_l k
 unfold Qbg.f
 repeat' first
   |(with_reducible exact ih0 _ _ _ _)
   |(with_reducible exact LeO.refl _)
   |(with_reducible exact LeO.none _)
   |(with_reducible refine LeO.ite ?_ ?_)
   |(with_reducible refine LeO.bind ?_ (fun _=>?_))
   | exact ih0 _ _ _ _
   | exact LeO.none _
   | refine LeO.ite ?_ ?_
   | refine LeO.bind ?_ (fun _=>?_)
theorem Qbg.calls(k:Nat)(a0:Int)(a1:Int)(r:Int)(w:World)(h:Qbg.f k a0 a1=some r) :
  Calls Tryz.prog 109 #[.int .u64 a0,.int .i64 a1] w fun e w'=>e=.returned (.int .u64 r)∧Drawn0 w w':=by
 have H:(Qbg.l0 k a0 a0 a1 0)=some r:=h
 clear h
 have H':=QA H
 clear H
 go_enter Tryz.func109,Tryz.ntmps109
 go_wp2
 go_loopg [5,8] k (fun kq v5 v8 w'=>∃(x5_1:Int) (x8_1:Int),v5=.int .u64 x5_1∧v8=.int .i64 x8_1∧Aside0 (Qbg.l0 kq a0 x5_1 a1 x8_1=some r)∧Aside0 (kq≤k)∧Drawn0 w w')
 case atStart=>exact⟨(a0),(0),qq_5,qq_5,H',⟨Nat.le_refl _⟩,by repeat(first|exact Drawn0.refl _|apply Drawn0.step)⟩
 case round =>
  clear H'
  obtain⟨x5_1,x8_1,rfl,rfl,HA,HK1,⟨m1,rfl⟩⟩:=hrel
  cases gk with
  | zero=>exact absurd HA.out (by simp[Qbg.l0])
  | succ k1 =>
   have H:=HA.out
   clear HA
   simp only[Qbg.l0]at H
   by_cases c3:x8_1<a1
   ·rw[if_pos c3]at H
    have c3b0:decide (x8_1<a1)=true:=decide_eq_true c3
    clear c3
    have H':=QA H
    clear H
    go_wp2
    go_roundg k1
    case measure=>have:=HK1.out;omega
    case rel=>exact⟨(IntKind.u64.wrap (Int.tdiv x5_1 2)),(wrap64 (x8_1+1)),qq_5,qq_5,H',⟨by have:=HK1.out;omega⟩,by repeat(first|exact Drawn0.refl _|apply Drawn0.step)⟩
   ·rw[if_neg c3]at H
    have c3b0:decide (x8_1<a1)=false:=decide_eq_false c3
    clear c3
    obtain rfl:=Option.some.inj H
    go_wp2
    go_ret
    exact⟨by first|rfl |(simp;done) |(simp[*];done),by repeat(first|exact Drawn0.refl _|apply Drawn0.step)⟩
def Qac.f(a0:Int)(a1:Int):Option (Int):=if 0≤(Go.bits .and .u64 (IntKind.u64.wrap (a1)) 63)then(if 0≤(IntKind.u64.wrap (64-(Go.bits .and .u64 (IntKind.u64.wrap (a1)) 63)))then(some (Go.bits .or .u64 (shl .u64 a0 (Go.bits .and .u64 (IntKind.u64.wrap (a1)) 63)) (shr .u64 a0 (IntKind.u64.wrap (64-(Go.bits .and .u64 (IntKind.u64.wrap (a1)) 63))))))else(none))else(none)
theorem Qac.calls(a0:Int)(a1:Int)(r:Int)(w:World)(h:Qac.f a0 a1=some r) :
  Calls Tryz.prog 202 #[.int .u64 a0,.int .i64 a1] w fun e w'=>e=.returned (.int .u64 r)∧Drawn0 w w':=by
 have H:(if 0≤(Go.bits .and .u64 (IntKind.u64.wrap (a1)) 63)then(if 0≤(IntKind.u64.wrap (64-(Go.bits .and .u64 (IntKind.u64.wrap (a1)) 63)))then(some (Go.bits .or .u64 (shl .u64 a0 (Go.bits .and .u64 (IntKind.u64.wrap (a1)) 63)) (shr .u64 a0 (IntKind.u64.wrap (64-(Go.bits .and .u64 (IntKind.u64.wrap (a1)) 63))))))else(none))else(none))=some r:=h
 clear h
 obtain⟨ji3,hji3⟩:∃j_:Int,(Go.bits .and .u64 (IntKind.u64.wrap (a1)) 63)=j_:=⟨_,rfl⟩
 replace H:(if 0≤(ji3)then(if 0≤(IntKind.u64.wrap (64-(ji3)))then(some (Go.bits .or .u64 (shl .u64 a0 (ji3)) (shr .u64 a0 (IntKind.u64.wrap (64-(ji3))))))else(none))else(none))=some r:=by first |(rw[hji3]at H;exact H) |(simp only[hji3]at H ⊢;exact H)
 by_cases c4:0≤(ji3)
 ·rw[if_pos c4]at H
  have c4b0:=eq_true c4
  have c4b1:decide (0≤(ji3))=true:=decide_eq_true c4
  clear c4
  obtain⟨ji5,hji5⟩:∃j_:Int,(shl .u64 a0 (ji3))=j_:=⟨_,rfl⟩
  replace H:(if 0≤(IntKind.u64.wrap (64-(ji3)))then(some (Go.bits .or .u64 (ji5) (shr .u64 a0 (IntKind.u64.wrap (64-(ji3))))))else(none))=some r:=by first |(rw[hji5]at H;exact H) |(simp only[hji5]at H ⊢;exact H)
  have hji5_:(IntKind.u64.wrap (a0*2^min (ji3).toNat 64))=ji5:=hji5
  have hji5z:(ji3)≤64→(IntKind.u64.wrap (a0*2^(ji3).toNat))=ji5:=Qip hji5
  obtain⟨ji6,hji6⟩:∃j_:Int,(IntKind.u64.wrap (64-(ji3)))=j_:=⟨_,rfl⟩
  replace H:(if 0≤(ji6)then(some (Go.bits .or .u64 (ji5) (shr .u64 a0 (ji6))))else(none))=some r:=by first |(rw[hji6]at H;exact H) |(simp only[hji6]at H ⊢;exact H)
  by_cases c7:0≤(ji6)
  ·rw[if_pos c7]at H
   have c7b0:=eq_true c7
   have c7b1:decide (0≤(ji6))=true:=decide_eq_true c7
   clear c7
   obtain⟨ji8,hji8⟩:∃j_:Int,(shr .u64 a0 (ji6))=j_:=⟨_,rfl⟩
   replace H:(some (Go.bits .or .u64 (ji5) (ji8)))=some r:=by first |(rw[hji8]at H;exact H) |(simp only[hji8]at H ⊢;exact H)
   have hji8_:(a0/2^min (ji6).toNat 64)=ji8:=hji8
   have hji8z:(ji6)≤64→(a0/2^(ji6).toNat)=ji8:=Qiq hji8
   obtain rfl:=Option.some.inj H
   go_enter Tryz.func202,Tryz.ntmps202
   go_wp2
   go_ret
   exact⟨by first|rfl |(simp;done) |(simp only[← hji3,← hji5,← hji6,← hji8]<;>(first|rfl|simp)) |(simp[*];done),by repeat(first|exact Drawn0.refl _|apply Drawn0.step)⟩
  ·rw[if_neg c7]at H
   exact absurd H (by simp)
 ·rw[if_neg c4]at H
  exact absurd H (by simp)
def Qcr.f(a0:Int)(a1:Int):Option (Int):=(Qac.f (IntKind.u64.wrap (a0+(IntKind.u64.wrap (a1*14029467366897019727)))) 31).bind fun t566=>(some (IntKind.u64.wrap (t566*11400714785074694791)))
theorem Qcr.calls(a0:Int)(a1:Int)(r:Int)(w:World)(h:Qcr.f a0 a1=some r) :
  Calls Tryz.prog 199 #[.int .u64 a0,.int .u64 a1] w fun e w'=>e=.returned (.int .u64 r)∧Drawn0 w w':=by
 have H:((Qac.f (IntKind.u64.wrap (a0+(IntKind.u64.wrap (a1*14029467366897019727)))) 31).bind fun t566=>(some (IntKind.u64.wrap (t566*11400714785074694791))))=some r:=h
 clear h
 replace H:=Option.bind_eq_some_iff.mp H
 obtain⟨t566,A30,H⟩:=H
 replace H:(some (IntKind.u64.wrap (t566*11400714785074694791)))=some r:=H
 have A3:=QA A30
 clear A30
 obtain rfl:=Option.some.inj H
 go_enter Tryz.func199,Tryz.ntmps199
 go_wp2_with (first |((with_reducible refine Qin (f:=202) rfl ?_);refine Qgp (some 9) rfl rfl Tryz.func202 qq_6 rfl #[.int .u64 (IntKind.u64.wrap (a0+(IntKind.u64.wrap (a1*14029467366897019727)))),.int .i64 31] rfl qq_1 ?_;(with_reducible refine(Qac.calls (IntKind.u64.wrap (a0+(IntKind.u64.wrap (a1*14029467366897019727)))) 31 t566 _ A3.out).mono ?_);rintro e w' ⟨rfl,⟨nd,rfl⟩⟩;refine⟨_,rfl,?_⟩))
 go_ret
 exact⟨by first|rfl |(simp;done) |(simp[*];done),by repeat(first|exact Drawn0.refl _|apply Drawn0.step)⟩
def Qcs.l0:Nat→List Int→Int→Int→Int→Option (Int)
 | 0,_,_,_,_=>none
 | k+1,x0,x5,x7,x8=>if x8<x7 then(if 0≤x8 then(if x8<(x0.length:Int)then(if 0≤(wrap64 (8*x8))then(Qcs.l0 k x0 (Go.bits .or .u64 x5 (shl .u64 (IntKind.u64.wrap (rd x0 x8)) (wrap64 (8*x8)))) x7 (wrap64 (x8+1)))else(none))else(none))else(none))else(some x5)
def Qcs.f(k:Nat)(l0:List Int)(a1:Int):Option (Int):=Qcs.l0 k l0 0 a1 0
theorem Qcs.calls(k:Nat)(A0:Option Addr)(c0:Nat)(l0:List Int)(a1:Int)(r:Int)(w:World)(hr0:Kd.C (Kd.int .u8) w A0 l0.length l0)(hc0:l0.length≤c0)(h:Qcs.f k l0 a1=some r) :
  Calls Tryz.prog 200 #[.slice A0 l0.length c0,.int .i64 a1] w fun e w'=>e=.returned (.int .u64 r)∧Drawn0 w w':=by
 have HR0:=QA hr0
 have HC0:=QA hc0
 clear hr0 hc0
 have H:(Qcs.l0 k l0 0 a1 0)=some r:=h
 clear h
 have H':=QA H
 clear H
 go_enter Tryz.func200,Tryz.ntmps200
 go_wp2
 go_loopg [5,8] k (fun kq v5 v8 w'=>∃(x5_1:Int) (x8_1:Int),v5=.int .u64 x5_1∧v8=.int .i64 x8_1∧Aside0 (Qcs.l0 kq l0 x5_1 a1 x8_1=some r)∧Aside0 (kq≤k)∧Drawn0 w w')
 case atStart=>exact⟨(0),(0),qq_5,qq_5,H',⟨Nat.le_refl _⟩,by repeat(first|exact Drawn0.refl _|apply Drawn0.step)⟩
 case round =>
  clear H'
  obtain⟨x5_1,x8_1,rfl,rfl,HA,HK1,⟨m1,rfl⟩⟩:=hrel
  cases gk with
  | zero=>exact absurd HA.out (by simp[Qcs.l0])
  | succ k1 =>
   have H:=HA.out
   clear HA
   simp only[Qcs.l0]at H
   by_cases c3:x8_1<a1
   ·rw [if_pos c3]at H
    have c3b0:decide (x8_1<a1)=true:=decide_eq_true c3
    clear c3
    by_cases c4:0≤x8_1
    ·rw[if_pos c4]at H
     have c4b0:decide (0≤x8_1)=true:=decide_eq_true c4
     clear c4
     by_cases c5:x8_1<(l0.length:Int)
     ·rw[if_pos c5]at H
      have c5b0:decide (x8_1<(l0.length:Int))=true:=decide_eq_true c5
      clear c5
      obtain⟨ji6,hji6⟩:∃j_:Int,(wrap64 (8*x8_1))=j_:=⟨_,rfl⟩
      replace H:(if 0≤(ji6)then(Qcs.l0 k1 l0 (Go.bits .or .u64 x5_1 (shl .u64 (IntKind.u64.wrap (rd l0 x8_1)) (ji6))) a1 (wrap64 (x8_1+1)))else(none))=some r:=by first |(rw[hji6]at H;exact H) |(simp only[hji6]at H ⊢;exact H)
      have hji6w:(IntKind.i64.wrap (8*x8_1))=ji6:=(Qgr _).trans hji6
      by_cases c7:0≤(ji6)
      ·rw[if_pos c7]at H
       have c7b0:=eq_true c7
       have c7b1:decide (0≤(ji6))=true:=decide_eq_true c7
       clear c7
       obtain⟨ji8,hji8⟩:∃j_:Int,(shl .u64 (IntKind.u64.wrap (rd l0 x8_1)) (ji6))=j_:=⟨_,rfl⟩
       replace H:(Qcs.l0 k1 l0 (Go.bits .or .u64 x5_1 (ji8)) a1 (wrap64 (x8_1+1)))=some r:=by first |(rw[hji8]at H;exact H) |(simp only[hji8]at H ⊢;exact H)
       have hji8_:(IntKind.u64.wrap ((IntKind.u64.wrap (rd l0 x8_1))*2^min (ji6).toNat 64))=ji8:=hji8
       have hji8z:(ji6)≤64→(IntKind.u64.wrap ((IntKind.u64.wrap (rd l0 x8_1))*2^(ji6).toNat))=ji8:=Qip hji8
       have H':=QA H
       clear H
       have p567:0≤(x8_1:Int):=of_decide_eq_true qq_4
       have q567:x8_1<(l0.length:Int):=of_decide_eq_true qq_4
       obtain⟨ad567,e567,hx567_0⟩:=Kd.at_int HR0.out x8_1 p567 q567
       cases e567
       replace p567:=eq_true p567
       replace q567:=eq_true q567
       go_wp2
       go_roundg k1
       case measure=>have:=HK1.out;omega
       case rel=>exact⟨(Go.bits .or .u64 x5_1 (ji8)),(wrap64 (x8_1+1)),(by first|rfl |(simp;done) |(simp only[← hji8]<;>(first|rfl|simp)) |(simp[*];done)),qq_5,H',⟨by have:=HK1.out;omega⟩,by repeat(first|exact Drawn0.refl _|apply Drawn0.step)⟩
      ·rw[if_neg c7]at H
       exact absurd H (by simp)
     ·rw[if_neg c5]at H
      exact absurd H (by simp)
    ·rw[if_neg c4]at H
     exact absurd H (by simp)
   ·rw[if_neg c3]at H
    have c3b0:decide (x8_1<a1)=false:=decide_eq_false c3
    clear c3
    obtain rfl:=Option.some.inj H
    go_wp2
    go_ret
    exact⟨by first|rfl |(simp;done) |(simp[*];done),by repeat(first|exact Drawn0.refl _|apply Drawn0.step)⟩
end Go.Proofs.YtnnofopfbeklbaaGreat.C
end
