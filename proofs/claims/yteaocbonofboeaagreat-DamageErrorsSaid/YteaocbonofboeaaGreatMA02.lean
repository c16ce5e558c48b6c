/- Merged texts. -/
import Derived.Test.YteaocbonofboeaaGreatProg
import Derived.Below
import Derived.Deep.Draws
import Derived.Deep.AppendLies
import Derived.Maps.AppendAt
import Derived.OwnWalk
import Derived.Laws.BytesArg
import Derived.Laws.MakeOwn
import Derived.Laws.OwnMore
import Derived.Deep.OwnRows
import Derived.Tactics
import Derived.Lib.ConvBytes
import Derived.Laws.Slices
import Derived.WalkKit
import Derived.KernelRfl
import Derived.RowKit3
import Derived.Deep.LoopGhost
import Derived.Deep.QuietTactic
import Derived.BigQuiet
import Derived.WideLaws
import Derived.Deep.DeepCutAuto
import Derived.Deep.CutBlock
import Derived.Deep.RegionHeld3
import Derived.Laws.Rows
import Derived.Lib.AppendStr
import Derived.ArgAppend
import Derived.Laws.IdiomCopy
import Derived.OrdersHeld
import Derived.Laws.BitsLemmas
import Derived.RowKit
import Derived.Test.YteaocbonofboeaaGreatMA00
import Derived.Test.YteaocbonofboeaaGreatMA01
set_option linter.unusedVariables false
set_option linter.unusedSimpArgs false
set_option maxHeartbeats 8000000
set_option maxRecDepth 100000
section
namespace Go.Proofs.YteaocbonofboeaaGreat.C
open Go.RowKit Go.Proofs.YteaocbonofboeaaGreatW.PrintWords Go.Proofs.YteaocbonofboeaaGreatW.PrintLast Go.Proofs.YteaocbonofboeaaGreatW.PrintMore
attribute [local go_sem] Qiz Qja Qjb Qjc Qjd Qje Qjf Qjg
def errW:Option Int→Value
 | none=>.nilIface
 | some c=>.iface 0 (.int .i64 c)
theorem Qjm:errW none=.nilIface:=rfl
theorem Qjn(c:Int):errW (some c)=.iface 0 (.int .i64 c):=rfl
theorem info3:(Tryz.prog.info? 3).map (fun i=>(i.zero,i.size,i.bytes))=some (some (.int .i64 0),1,8):=by kernel_rfl
theorem info4:(Tryz.prog.info? 4).map (fun i=>(i.zero,i.size,i.bytes))=some (some (.bool false),1,1):=by kernel_rfl
theorem Qjo:(Tryz.prog.info? 5).map (fun i=>(i.zero,i.size,i.bytes))=some (some (.int .u8 0),1,1):=by kernel_rfl
theorem Qjp:(Tryz.prog.info? 26).map (fun i=>(i.zero,i.size,i.bytes))=some (some (.int .u32 0),1,4):=by kernel_rfl
theorem Qjq:(Tryz.prog.info? 35).map (fun i=>(i.zero,i.size,i.bytes))=some (some (.int .u64 0),1,8):=by kernel_rfl
theorem Qjr:(Tryz.prog.info? 37).map (fun i=>(i.zero,i.size,i.bytes))=some (some (.agg #[(.bool false),(.int .u64 0),(.string ⟨#[]⟩),(.string ⟨#[]⟩)]),4,48):=by kernel_rfl
theorem Qjs:(Tryz.prog.info? 76).map (fun i=>(i.zero,i.size,i.bytes))=some (some (.agg #[(.int .u32 0),(.int .u32 0)]),2,8):=by kernel_rfl
structure S37 where
  f0:Bool
  f1:Int
  f2:ByteArray
  f3:ByteArray
def z37:S37:=⟨false,(0:Int),(⟨#[]⟩:ByteArray),(⟨#[]⟩:ByteArray)⟩
def k37:Kd S37:=Kd.iso (Kd.pair Kd.bool (Kd.pair (Kd.int .u64) (Kd.pair Kd.string Kd.string))) (fun x:S37=>(x.f0,x.f1,x.f2,x.f3))
theorem Qjt:Kd.Heap k37:=Kd.heap_iso _ (Kd.heap_pair Kd.heap_bool (Kd.heap_pair (Kd.heap_int .u64) (Kd.heap_pair Kd.heap_string Kd.heap_string)))
theorem Qju{w:World}{x:S37}{cs:List Value}(h:k37.K w x cs):cs=[.bool x.f0,.int .u64 x.f1,.string x.f2,.string x.f3]:=by
 obtain⟨_,_,rfl,rfl,⟨_,_,rfl,rfl,⟨_,_,rfl,rfl,rfl⟩⟩⟩:=h
 exact rfl
theorem Qjv(w:World)(base:Nat)(ok:Nat→Prop)(x:S37)  : k37.M w base ok x [.bool x.f0,.int .u64 x.f1,.string x.f2,.string x.f3]:=⟨[.bool x.f0],[.int .u64 x.f1,.string x.f2,.string x.f3],rfl,rfl,⟨[.int .u64 x.f1],[.string x.f2,.string x.f3],rfl,rfl,⟨[.string x.f2],[.string x.f3],rfl,rfl,rfl⟩⟩⟩
def Qjw(xs:List S37)(i:Int):S37:=xs.getD i.toNat z37
theorem Qjx{w:World}{A:Option Addr}{n:Nat}{xs:List S37}(h:Kd.C k37 w A n xs)(i:Int)(h0:0≤i)(h1:i<n):∃ad , A=some ad∧w.cell? (ad.add (i.toNat*4))=some (.bool (Qjw xs i).f0)∧w.cell? ⟨(ad.add (i.toNat*4)).block,(ad.add (i.toNat*4)).off+1,none⟩=some (.int .u64 (Qjw xs i).f1)∧w.cell? ⟨(ad.add (i.toNat*4)).block,(ad.add (i.toNat*4)).off+2,none⟩=some (.string (Qjw xs i).f2)∧w.cell? ⟨(ad.add (i.toNat*4)).block,(ad.add (i.toNat*4)).off+3,none⟩=some (.string (Qjw xs i).f3):=by
 obtain⟨ad,c,e,_,hK,hc0⟩:=Kd.C_get h z37 i h0 h1
 have hc:∀j u,c[j]? = some u→w.cell? (ad.add (i.toNat*4+j))=some u:=hc0
 obtain rfl:=Qju hK
 exact⟨ad,e,hc 0 _ rfl,by rw[← Qed _ _ 1 (by omega)];exact hc 1 _ rfl,by rw[← Qed _ _ 2 (by omega)];exact hc 2 _ rfl,by rw[← Qed _ _ 3 (by omega)];exact hc 3 _ rfl⟩
structure S28 where
  f0:Int
  f1:Int
def k28:Kd S28:=Kd.iso (Kd.pair (Kd.int .u8) (Kd.int .u32)) (fun x:S28=>(x.f0,x.f1))
theorem Qjy{w:World}{x:S28}{cs:List Value}(h:k28.K w x cs):cs=[.int .u8 x.f0,.int .u32 x.f1]:=by
 obtain⟨_,_,rfl,rfl,rfl⟩:=h
 exact rfl
structure S74 where
  f0:S37
  f1:Int
  f2:Int
  f3:Int
def z74:S74:=⟨z37,(0:Int),(0:Int),(0:Int)⟩
def k74:Kd S74:=Kd.iso (Kd.pair k37 (Kd.pair (Kd.int .u64) (Kd.pair (Kd.int .i64) (Kd.int .i64)))) (fun x:S74=>(x.f0,x.f1,x.f2,x.f3))
theorem Qjz{w:World}{x:S74}{cs:List Value}(h:k74.K w x cs):cs=[.bool x.f0.f0,.int .u64 x.f0.f1,.string x.f0.f2,.string x.f0.f3,.int .u64 x.f1,.int .i64 x.f2,.int .i64 x.f3]:=by
 obtain⟨_,_,rfl,s0,⟨_,_,rfl,rfl,⟨_,_,rfl,rfl,rfl⟩⟩⟩:=h
 obtain rfl:=Qju s0
 exact rfl
theorem k74_mkM(w:World)(base:Nat)(ok:Nat→Prop)(x:S74)  : k74.M w base ok x [.bool x.f0.f0,.int .u64 x.f0.f1,.string x.f0.f2,.string x.f0.f3,.int .u64 x.f1,.int .i64 x.f2,.int .i64 x.f3]:=⟨[.bool x.f0.f0,.int .u64 x.f0.f1,.string x.f0.f2,.string x.f0.f3],[.int .u64 x.f1,.int .i64 x.f2,.int .i64 x.f3],rfl,(Qjv w base ok x.f0 ),⟨[.int .u64 x.f1],[.int .i64 x.f2,.int .i64 x.f3],rfl,rfl,⟨[.int .i64 x.f2],[.int .i64 x.f3],rfl,rfl,rfl⟩⟩⟩
def Qka(xs:List S74)(i:Int):S74:=xs.getD i.toNat z74
theorem Qkb{w:World}{A:Option Addr}{n:Nat}{xs:List S74}(h:Kd.C k74 w A n xs)(i:Int)(h0:0≤i)(h1:i<n):∃ad , A=some ad∧w.cell? (ad.add (i.toNat*7))=some (.bool (Qka xs i).f0.f0)∧w.cell? ⟨(ad.add (i.toNat*7)).block,(ad.add (i.toNat*7)).off+1,none⟩=some (.int .u64 (Qka xs i).f0.f1)∧w.cell? ⟨(ad.add (i.toNat*7)).block,(ad.add (i.toNat*7)).off+2,none⟩=some (.string (Qka xs i).f0.f2)∧w.cell? ⟨(ad.add (i.toNat*7)).block,(ad.add (i.toNat*7)).off+3,none⟩=some (.string (Qka xs i).f0.f3)∧w.cell? ⟨(ad.add (i.toNat*7)).block,(ad.add (i.toNat*7)).off+4,none⟩=some (.int .u64 (Qka xs i).f1)∧w.cell? ⟨(ad.add (i.toNat*7)).block,(ad.add (i.toNat*7)).off+5,none⟩=some (.int .i64 (Qka xs i).f2)∧w.cell? ⟨(ad.add (i.toNat*7)).block,(ad.add (i.toNat*7)).off+6,none⟩=some (.int .i64 (Qka xs i).f3):=by
 obtain⟨ad,c,e,_,hK,hc0⟩:=Kd.C_get h z74 i h0 h1
 have hc:∀j u,c[j]? = some u→w.cell? (ad.add (i.toNat*7+j))=some u:=hc0
 obtain rfl:=Qjz hK
 exact⟨ad,e,hc 0 _ rfl,by rw[← Qed _ _ 1 (by omega)];exact hc 1 _ rfl,by rw[← Qed _ _ 2 (by omega)];exact hc 2 _ rfl,by rw[← Qed _ _ 3 (by omega)];exact hc 3 _ rfl,by rw[← Qed _ _ 4 (by omega)];exact hc 4 _ rfl,by rw[← Qed _ _ 5 (by omega)];exact hc 5 _ rfl,by rw[← Qed _ _ 6 (by omega)];exact hc 6 _ rfl⟩
structure S129 where
  f0:Int
  f1:Int
def z129:S129:=⟨(0:Int),(0:Int)⟩
def k129:Kd S129:=Kd.iso (Kd.pair (Kd.int .u64) (Kd.int .u32)) (fun x:S129=>(x.f0,x.f1))
theorem Qkc{w:World}{x:S129}{cs:List Value}(h:k129.K w x cs):cs=[.int .u64 x.f0,.int .u32 x.f1]:=by
 obtain⟨_,_,rfl,rfl,rfl⟩:=h
 exact rfl
theorem Qkd{w:World}{base:Nat}{ok:Nat→Prop}{x:S129}{cs:List Value}(h:k129.M w base ok x cs):cs=[.int .u64 x.f0,.int .u32 x.f1]:=by
 obtain⟨_,_,rfl,rfl,rfl⟩:=h
 exact rfl
theorem Qke(w:World)(base:Nat)(ok:Nat→Prop)(x:S129)  : k129.M w base ok x [.int .u64 x.f0,.int .u32 x.f1]:=⟨[.int .u64 x.f0],[.int .u32 x.f1],rfl,rfl,rfl⟩
def Qkf(xs:List S129)(i:Int):S129:=xs.getD i.toNat z129
theorem Qkg{w:World}{A:Option Addr}{n:Nat}{xs:List S129}(h:Kd.C k129 w A n xs)(i:Int)(h0:0≤i)(h1:i<n):∃ad , A=some ad∧w.cell? (ad.add (i.toNat*2))=some (.int .u64 (Qkf xs i).f0)∧w.cell? ⟨(ad.add (i.toNat*2)).block,(ad.add (i.toNat*2)).off+1,none⟩=some (.int .u32 (Qkf xs i).f1):=by
 obtain⟨ad,c,e,_,hK,hc0⟩:=Kd.C_get h z129 i h0 h1
 have hc:∀j u,c[j]? = some u→w.cell? (ad.add (i.toNat*2+j))=some u:=hc0
 obtain rfl:=Qkc hK
 exact⟨ad,e,hc 0 _ rfl,by rw[← Qed _ _ 1 (by omega)];exact hc 1 _ rfl⟩
structure S76 where
  f0:Int
  f1:Int
def z76:S76:=⟨(0:Int),(0:Int)⟩
def k76:Kd S76:=Kd.iso (Kd.pair (Kd.int .u32) (Kd.int .u32)) (fun x:S76=>(x.f0,x.f1))
theorem Qkh{w:World}{x:S76}{cs:List Value}(h:k76.K w x cs):cs=[.int .u32 x.f0,.int .u32 x.f1]:=by
 obtain⟨_,_,rfl,rfl,rfl⟩:=h
 exact rfl
theorem Qki(w:World)(base:Nat)(ok:Nat→Prop)(x:S76)  : k76.M w base ok x [.int .u32 x.f0,.int .u32 x.f1]:=⟨[.int .u32 x.f0],[.int .u32 x.f1],rfl,rfl,rfl⟩
def Qkj(xs:List S76)(i:Int):S76:=xs.getD i.toNat z76
theorem Qkk{w:World}{A:Option Addr}{n:Nat}{xs:List S76}(h:Kd.C k76 w A n xs)(i:Int)(h0:0≤i)(h1:i<n):∃ad , A=some ad∧w.cell? (ad.add (i.toNat*2))=some (.int .u32 (Qkj xs i).f0)∧w.cell? ⟨(ad.add (i.toNat*2)).block,(ad.add (i.toNat*2)).off+1,none⟩=some (.int .u32 (Qkj xs i).f1):=by
 obtain⟨ad,c,e,_,hK,hc0⟩:=Kd.C_get h z76 i h0 h1
 have hc:∀j u,c[j]? = some u→w.cell? (ad.add (i.toNat*2+j))=some u:=hc0
 obtain rfl:=Qkh hK
 exact⟨ad,e,hc 0 _ rfl,by rw[← Qed _ _ 1 (by omega)];exact hc 1 _ rfl⟩
structure S158 where
  f0:Int
  f1:Int
def z158:S158:=⟨(0:Int),(0:Int)⟩
def k158:Kd S158:=Kd.iso (Kd.pair (Kd.int .u64) (Kd.int .u8)) (fun x:S158=>(x.f0,x.f1))
theorem Qkl{w:World}{x:S158}{cs:List Value}(h:k158.K w x cs):cs=[.int .u64 x.f0,.int .u8 x.f1]:=by
 obtain⟨_,_,rfl,rfl,rfl⟩:=h
 exact rfl
theorem Qkm(w:World)(base:Nat)(ok:Nat→Prop)(x:S158)  : k158.M w base ok x [.int .u64 x.f0,.int .u8 x.f1]:=⟨[.int .u64 x.f0],[.int .u8 x.f1],rfl,rfl,rfl⟩
def Qkn(xs:List S158)(i:Int):S158:=xs.getD i.toNat z158
theorem Qko{w:World}{A:Option Addr}{n:Nat}{xs:List S158}(h:Kd.C k158 w A n xs)(i:Int)(h0:0≤i)(h1:i<n):∃ad , A=some ad∧w.cell? (ad.add (i.toNat*2))=some (.int .u64 (Qkn xs i).f0)∧w.cell? ⟨(ad.add (i.toNat*2)).block,(ad.add (i.toNat*2)).off+1,none⟩=some (.int .u8 (Qkn xs i).f1):=by
 obtain⟨ad,c,e,_,hK,hc0⟩:=Kd.C_get h z158 i h0 h1
 have hc:∀j u,c[j]? = some u→w.cell? (ad.add (i.toNat*2+j))=some u:=hc0
 obtain rfl:=Qkl hK
 exact⟨ad,e,hc 0 _ rfl,by rw[← Qed _ _ 1 (by omega)];exact hc 1 _ rfl⟩
structure S81 where
  f0:(List S158)
  f1:Int
structure S160 where
  f0:Int
  f1:Int
structure S147 where
  f0:Int
  f1:Int
  f2:Int
structure S61 where
  f0:Int
  f1:Int
  f2:Int
structure S152 where
  f0:S37
  f1:Int
  f2:Int
  f3:Int
structure S224 where
  f0:Int
  f1:Int
theorem qq_x{W:World}{g:Nat}{t:TypeId}{cs cs':Array Value}(h:W.heap[g]? = some (.cells cs' t (0,0)):=by((with_reducible repeat(first|apply Qew|apply Qev|apply Qeu|apply Qef));exact Aside0.out (by assumption)))(e:cs'=cs:=by rfl):W.heap[g]? = some (.cells cs t (0,0)):=e ▸ h
theorem qc2{W:World}{g:Nat}{t:TypeId}{v0 v1:Value}(h:W.heap[g]? = some (.cells #[v0,v1] t (0,0))):W.cell? ⟨g,0,none⟩=some v0∧W.cell? ⟨g,1,none⟩=some v1:=⟨(Qei h 0).trans rfl,(Qei h 1).trans rfl⟩
theorem qc4{W:World}{g:Nat}{t:TypeId}{v0 v1 v2 v3:Value}(h:W.heap[g]? = some (.cells #[v0,v1,v2,v3] t (0,0))):W.cell? ⟨g,0,none⟩=some v0∧W.cell? ⟨g,1,none⟩=some v1∧W.cell? ⟨g,2,none⟩=some v2∧W.cell? ⟨g,3,none⟩=some v3:=⟨(Qei h 0).trans rfl,(Qei h 1).trans rfl,(Qei h 2).trans rfl,(Qei h 3).trans rfl⟩
theorem qc5{W:World}{g:Nat}{t:TypeId}{v0 v1 v2 v3 v4:Value}(h:W.heap[g]? = some (.cells #[v0,v1,v2,v3,v4] t (0,0))):W.cell? ⟨g,0,none⟩=some v0∧W.cell? ⟨g,1,none⟩=some v1∧W.cell? ⟨g,2,none⟩=some v2∧W.cell? ⟨g,3,none⟩=some v3∧W.cell? ⟨g,4,none⟩=some v4:=⟨(Qei h 0).trans rfl,(Qei h 1).trans rfl,(Qei h 2).trans rfl,(Qei h 3).trans rfl,(Qei h 4).trans rfl⟩
theorem qc7{W:World}{g:Nat}{t:TypeId}{v0 v1 v2 v3 v4 v5 v6:Value}(h:W.heap[g]? = some (.cells #[v0,v1,v2,v3,v4,v5,v6] t (0,0))):W.cell? ⟨g,0,none⟩=some v0∧W.cell? ⟨g,1,none⟩=some v1∧W.cell? ⟨g,2,none⟩=some v2∧W.cell? ⟨g,3,none⟩=some v3∧W.cell? ⟨g,4,none⟩=some v4∧W.cell? ⟨g,5,none⟩=some v5∧W.cell? ⟨g,6,none⟩=some v6:=⟨(Qei h 0).trans rfl,(Qei h 1).trans rfl,(Qei h 2).trans rfl,(Qei h 3).trans rfl,(Qei h 4).trans rfl,(Qei h 5).trans rfl,(Qei h 6).trans rfl⟩
theorem qq_b{b:Nat}{w w':World}(h:Below b w w':=by repeat(first |(with_reducible first|exact HB.out|apply Qdj|apply Qdl|apply Qgf|refine Qga ?_ (Aside0.out (by assumption)))|exact HB.out)):Below b w w':=h
theorem qq_h{w w':World}(hb:Below w.heap.size w w'){p:Addr}{v:Value}(h:w.cell? p=some v):w'.cell? p=some v:=(hb.cell (World.block_lt_of_cell? w _ h)).trans h
theorem qq_s{w W:World}{g:Nat}(hg:g=W.heap.size)(h:Below w.heap.size w W:=by exact qq_b):w.heap.size≤g:=hg ▸ Qfx h
theorem qq_e{P:Program}{ops:Array Oper}{o:Oper}{rest:List Oper}{a:Act}{Q:Exit→Act→World→Prop}{W:World}(N:Tmp)(cs:Array Value)(t:TypeId)(h:∀g,g=W.heap.size→∀w1,w1.heap[g]? = some (.cells cs t (0,0))→Below W.heap.size W w1→wpList P ops Q rest (a.put o.dst (.pointer (some ⟨g,0,none⟩))) w1)(hgd:o.guard=none:=by rfl)(hd:o.dst=some N:=by rfl)(hrun:(execOp a.eval o).run P W=.ok (.value (.pointer (some ⟨W.heap.size,0,none⟩))) (W.alloc (.cells cs t (0,0))):=by first |(go_simp;done) |(go_simp;rfl)):wpList P ops Q (o :: rest) a W:=Qgh hgd hd hrun h
theorem qq_0{p:Prop}(h:p:=by(with_reducible repeat(first|apply Qew|apply Qev|apply Qeu));exact Aside0.out (by assumption)):p:=h
theorem qq_1{p:Prop}(h:p:=by(try simp only[List.map_toArray,List.map_cons,List.map_nil]);first|done|rfl |(simp only[List.length_drop,List.length_take];rfl)):p:=h
theorem qq_2{p:Prop}(h:p:=by first |(rw[Qgc];assumption) |(show(Addr.add _ _).block≠_;rw[Qgc];assumption)|assumption):p:=h
theorem qq_3{p:Prop}(h:p:=by first |(with_reducible assumption)|assumption):p:=h
theorem qq_4{p:Prop}(h:p:=by(with_reducible repeat(first|apply Kd.R_alloc|apply Kd.R_drewN|apply Kd.R_drew));exact Aside0.out (by assumption)):p:=h
theorem qq_5{p:Prop}(h:p:=by first|rfl |(simp[Qjm,Qjn]<;>rfl) |(simp[*,Qjm,Qjn]<;>rfl)):p:=h
theorem qq_6{p:Prop}(h:p:=by kernel_rfl):p:=h
theorem qq_7{p:Prop}(h:p:=by first|rfl |(simp;done) |(simp[*];done)):p:=h
theorem qq_8{p:Prop}(h:p:=by(repeat(first |(with_reducible first|apply Qew|apply Qev|apply Qeu)|refine Qeg ?_ (Aside0.out (by assumption)) _));exact Aside0.out (by assumption)):p:=h
theorem qq_9{p:Prop}(h:p:=by simp only[Act.put,List.setIfInBounds_toArray,List.set_cons_zero,List.set_cons_succ,Qhh,Qhi];rfl):p:=h
theorem qq_10{p:Prop}(h:p:=by first |(simp only[Qha,Act.put,List.setIfInBounds_toArray,List.set_cons_zero,List.set_cons_succ];done) |(simp only[Qha,Act.put,List.setIfInBounds_toArray,List.set_cons_zero,List.set_cons_succ];rfl)):p:=h
theorem qq_11{p:Prop}(h:p:=by have:=World.block_lt_of_cell? _ _ hx412_0;first|rwa [Qgc]at this|exact this):p:=h
theorem qq_12{p:Prop}(h:p:=by have:=World.block_lt_of_cell? _ _ hx391_0;first|rwa [Qgc]at this|exact this):p:=h
theorem qq_13{p:Prop}(h:p:=by(with_reducible repeat(first|apply Kd.R_alloc|apply Kd.R_drewN|apply Kd.R_drew));exact HO_8.out):p:=h
theorem qq_14{p:Prop}(h:p:=by(with_reducible repeat(first|apply Kd.V_alloc|apply Kd.V_drewN|apply Kd.V_drew));exact(Kd.V_mono (Kd.V_far (p:=⟨gb382,3,none⟩) (Kd.V_far (p:=⟨gb382,2,none⟩) (Kd.V_far (p:=⟨gb382,1,none⟩) (Kd.V_far (p:=⟨gb382,0,none⟩) (Kd.V_mono HO_1.out (fun k_ hk=>(⟨hk,hk.2⟩:_∧k_≠gb382))) (fun _ hk=>hk.2) (.bool ((Qjw l0 x10_1).f0))) (fun _ hk=>hk.2) (.int .u64 ((Qjw l0 x10_1).f1))) (fun _ hk=>hk.2) (.string ((Qjw l0 x10_1).f2))) (fun _ hk=>hk.2) (.string ((Qjw l0 x10_1).f3))) (fun _ h_=>h_.1))):p:=h
theorem qq_15{p:Prop}(h:p:=by(with_reducible repeat(first|apply Kd.R_alloc|apply Kd.R_drewN|apply Kd.R_drew));exact HO_13.out):p:=h
theorem qq_16{p:Prop}(h:p:=by(with_reducible repeat(first|apply Kd.R_alloc|apply Kd.R_drewN|apply Kd.R_drew));exact(Kd.R_mono (Kd.R_far (p:=⟨gb318,4,none⟩) (Kd.R_far (p:=⟨gb318,3,none⟩) (Kd.R_far (p:=⟨gb318,2,none⟩) (Kd.R_far (p:=⟨gb318,1,none⟩) (Kd.R_far (p:=⟨gb318,0,none⟩) (Kd.R_types HO_9.out BK318.out (by decide)) (fun _ hk=>hk.2) (.int .u8 t312)) (fun _ hk=>hk.2) (.int .u32 t313)) (fun _ hk=>hk.2) (.int .u32 t314)) (fun _ hk=>hk.2) (.int .i64 t315)) (fun _ hk=>hk.2) (.int .i64 t316)) (fun _ h_=>h_.1))):p:=h
theorem qq_17{p:Prop}(h:p:=by(with_reducible repeat(first|apply Kd.R_alloc|apply Kd.R_drewN|apply Kd.R_drew));exact(Kd.R_mono (Kd.R_far (p:=⟨gb302,4,none⟩) (Kd.R_far (p:=⟨gb302,3,none⟩) (Kd.R_far (p:=⟨gb302,2,none⟩) (Kd.R_far (p:=⟨gb302,1,none⟩) (Kd.R_far (p:=⟨gb302,0,none⟩) (Kd.R_types HO_9.out BK302.out (by decide)) (fun _ hk=>hk.2) (.int .u8 t296)) (fun _ hk=>hk.2) (.int .u32 t297)) (fun _ hk=>hk.2) (.int .u32 t298)) (fun _ hk=>hk.2) (.int .i64 t299)) (fun _ hk=>hk.2) (.int .i64 t300)) (fun _ h_=>h_.1))):p:=h
theorem qq_18{p:Prop}(h:p:=by(with_reducible repeat(first|apply Kd.R_alloc|apply Kd.R_drewN|apply Kd.R_drew));exact(Kd.R_mono (Kd.R_far (p:=⟨gb500,3,none⟩) (Kd.R_far (p:=⟨gb500,2,none⟩) (Kd.R_far (p:=⟨gb500,1,none⟩) (Kd.R_far (p:=⟨gb500,0,none⟩) (Kd.R_types HO_13.out BK500.out (by decide)) (fun _ hk=>hk.2) (.bool ((Qjw l1 x38_1).f0))) (fun _ hk=>hk.2) (.int .u64 ((Qjw l1 x38_1).f1))) (fun _ hk=>hk.2) (.string ((Qjw l1 x38_1).f2))) (fun _ hk=>hk.2) (.string ((Qjw l1 x38_1).f3))) (fun _ h_=>h_.1))):p:=h
theorem qq_19{p:Prop}(h:p:=by(with_reducible repeat(first|apply Kd.R_alloc|apply Kd.R_drewN|apply Kd.R_drew));exact(Kd.R_mono (Kd.R_far (p:=⟨gb500,3,none⟩) (Kd.R_far (p:=⟨gb500,2,none⟩) (Kd.R_far (p:=⟨gb500,1,none⟩) (Kd.R_far (p:=⟨gb500,0,none⟩) (Kd.R_types HO_8.out BK500.out (by decide)) (fun _ hk=>hk.2) (.bool ((Qjw l1 x38_1).f0))) (fun _ hk=>hk.2) (.int .u64 ((Qjw l1 x38_1).f1))) (fun _ hk=>hk.2) (.string ((Qjw l1 x38_1).f2))) (fun _ hk=>hk.2) (.string ((Qjw l1 x38_1).f3))) (fun _ h_=>h_.1))):p:=h
theorem qq_20{p:Prop}(h:p:=by first |(go_simp;done) |(go_simp;rfl)):p:=h
theorem qq_21{p:Prop}(h:p:=by(with_reducible repeat(first|apply Kd.R_alloc|apply Kd.R_drewN|apply Kd.R_drew));exact HO_6.out):p:=h
theorem qq_22{p:Prop}(h:p:=by(with_reducible repeat(first|apply Kd.R_alloc|apply Kd.R_drewN|apply Kd.R_drew));exact HO371.out):p:=h
theorem qq_23{p:Prop}(h:p:=by(with_reducible repeat(first|apply Kd.R_alloc|apply Kd.R_drewN|apply Kd.R_drew));exact HO_9.out):p:=h
theorem qq_24{p:Prop}(h:p:=by(with_reducible repeat(first|apply Kd.R_alloc|apply Kd.R_drewN|apply Kd.R_drew));exact HO_4.out):p:=h
theorem qq_25{p:Prop}(h:p:=by(with_reducible repeat(first|apply Kd.R_alloc|apply Kd.R_drewN|apply Kd.R_drew));exact HO_54.out):p:=h
theorem qq_26{p:Prop}(h:p:=by(with_reducible repeat(first|apply Kd.R_alloc|apply Kd.R_drewN|apply Kd.R_drew));exact HO503.out):p:=h
theorem qq_27{p:Prop}(h:p:=by(with_reducible repeat(first|apply Kd.R_alloc|apply Kd.R_drewN|apply Kd.R_drew));exact HO494.out):p:=h
theorem qq_28{p:Prop}(h:p:=by(with_reducible repeat(first|apply Kd.V_alloc|apply Kd.V_drewN|apply Kd.V_drew));exact HO_5.out):p:=h
theorem qq_29{p:Prop}(h:p:=by(with_reducible repeat(first|apply Kd.V_alloc|apply Kd.V_drewN|apply Kd.V_drew));exact HO_0.out):p:=h
theorem qq_30{p:Prop}(h:p:=by rw[List.length_drop];omega):p:=h
theorem qq_31{p:Prop}(h:p:=by(with_reducible repeat(first|apply Kd.R_alloc|apply Kd.R_drewN|apply Kd.R_drew));exact HO_25.out):p:=h
theorem qq_32{p:Prop}(h:p:=by(with_reducible repeat(first|apply Kd.R_alloc|apply Kd.R_drewN|apply Kd.R_drew));exact HO_7.out):p:=h
theorem qq_33{p:Prop}(h:p:=by(try simp only[List.map_toArray,List.map_cons,List.map_nil]);first|done |(simp only[hji2];rfl)|rfl |(simp only[List.length_drop,List.length_take];rfl)):p:=h
theorem qq_34{p:Prop}(h:p:=by have:=HN.out;omega):p:=h
theorem qq_35{p:Prop}(h:p:=by(with_reducible repeat(first|apply Kd.V_alloc|apply Kd.V_drewN|apply Kd.V_drew));exact HO111.out):p:=h
theorem qq_36{p:Prop}(h:p:=by(with_reducible repeat(first|apply Kd.R_alloc|apply Kd.R_drewN|apply Kd.R_drew));exact HO374.out):p:=h
theorem qq_37{p:Prop}(h:p:=by(with_reducible repeat(first|apply Kd.R_alloc|apply Kd.R_drewN|apply Kd.R_drew));exact HO_5.out):p:=h
theorem qq_38{p:Prop}(h:p:=by simp;omega):p:=h
def Qaw.l0:Nat→List (S37)→Int→Int→List (S37)→Int→Int→Option (Bool)
 | 0,_,_,_,_,_,_=>none
 | k+1,x0,x1,x2,x9,x10,x11=>if x11<x10 then(if 0≤x11 then(if x11<(x9.length:Int)then(if(((Qjw x9 x11).f2).size:Int) > x2 then(some false)else(if(((Qjw x9 x11).f3).size:Int) > x2 then(some false)else(Qaw.l0 k x0 x1 x2 x9 x10 (wrap64 (x11+1)))))else(none))else(none))else(some (decide ((x0.length:Int)≤x1)))
def Qaw.f(k:Nat)(l0:List (S37))(a1:Int)(a2:Int):Option (Bool):=Qaw.l0 k l0 a1 a2 l0 (l0.length:Int) 0
theorem Qaw.calls (k:Nat) (A0:Option Addr) (c0:Nat) (l0:List (S37)) (a1:Int) (a2:Int) (r:Bool) (w:World) (hr0:Kd.C k37 w A0 l0.length l0) (hc0:l0.length≤c0) (h:Qaw.f k l0 a1 a2=some r) :
  Calls Tryz.prog 15 #[.slice A0 l0.length c0,.int .i64 a1,.int .i64 a2] w fun e w'=>e=.returned (.bool r)∧Below w.heap.size w w':=by
 have hu37:=Tryz.underlying37;have t:=QA hr0;have Y:=QA hc0;clear hr0 hc0;have HB:=QA (Below.refl w.heap.size w);have H:(Qaw.l0 k l0 a1 a2 l0 (l0.length:Int) 0)=some r:=h;clear h;have H':=QA H;clear H
 go_enter Tryz.func15,Tryz.ntmps15
 go_wp2
 go_loopg [11] k (fun kq J w'=>∃(a:Int),J=.int .i64 a∧Aside0 (Qaw.l0 kq l0 a1 a2 l0 (l0.length:Int) a=some r)∧Aside0 (kq≤k)∧Aside0 (Below w.heap.size w w'))
 case atStart=>exact⟨(0),qq_7,H',⟨Nat.le_refl _⟩,⟨qq_b⟩⟩
 case round =>
  clear H';obtain⟨a,rfl,HA,HK1,HB⟩:=hrel
  cases gk with
  | zero=>exact absurd HA.out (by simp[Qaw.l0])
  | succ k1 =>
   have H:=HA.out;clear HA;simp only[Qaw.l0]at H
   by_cases c4:a<(l0.length:Int)
   ·rw [if_pos c4]at H;have v:=decide_eq_true c4;clear c4
    by_cases c5:0≤a
    ·rw [if_pos c5]at H;have U:=decide_eq_true c5;clear c5
     by_cases c6:a<(l0.length:Int)
     ·rw[if_pos c6]at H;have W:=decide_eq_true c6;clear c6
      by_cases c7:(((Qjw l0 a).f2).size:Int) > a2
      ·rw[if_pos c7]at H;have x:decide (a2<(((Qjw l0 a).f2).size:Int))=true:=decide_eq_true c7;clear c7;obtain rfl:=Option.some.inj H;have j:0≤(a:Int):=of_decide_eq_true qq_3;have l:a<(l0.length:Int):=of_decide_eq_true qq_3;obtain⟨p,o,b,c,d,g⟩:=Qjx t.out a j l
       cases o
       replace b:=qq_h HB.out b;replace c:=qq_h HB.out c;replace d:=qq_h HB.out d;replace g:=qq_h HB.out g;replace j:=eq_true j;replace l:=eq_true l
       go_wp2_with (first |((with_reducible refine Qgj (N:=8) rfl ?_);(try(refine Qiy (by rfl) ?_;dsimp only));refine qq_e 8 #[.bool false,.int .u64 0,.string (⟨#[]⟩:ByteArray),.string (⟨#[]⟩:ByteArray)] 37 ?_;intro m hg w8 hbox hb;have n_:=qn4 (Qfy qq_b hb) (hbox) (qq_s hg:w.heap.size≤m) (qq_s hg:w.heap.size≤m);clear HB;obtain⟨HB,n,q,s⟩:=n_;clear hb hbox hg;obtain⟨K,L,M,O⟩:=qc4 n.out;have X:=Qej n.out))
       go_ret
       exact⟨qq_5,qq_b⟩
      ·rw[if_neg c7]at H;have x:decide (a2<(((Qjw l0 a).f2).size:Int))=false:=decide_eq_false c7;clear c7
       by_cases c10:(((Qjw l0 a).f3).size:Int) > a2
       ·rw[if_pos c10]at H;have u:decide (a2<(((Qjw l0 a).f3).size:Int))=true:=decide_eq_true c10;clear c10;obtain rfl:=Option.some.inj H;have j:0≤(a:Int):=of_decide_eq_true qq_3;have l:a<(l0.length:Int):=of_decide_eq_true qq_3;obtain⟨p,o,b,c,d,g⟩:=Qjx t.out a j l
        cases o
        replace b:=qq_h HB.out b;replace c:=qq_h HB.out c;replace d:=qq_h HB.out d;replace g:=qq_h HB.out g;replace j:=eq_true j;replace l:=eq_true l
        go_wp2_with (first |((with_reducible refine Qgj (N:=8) rfl ?_);(try(refine Qiy (by rfl) ?_;dsimp only));refine qq_e 8 #[.bool false,.int .u64 0,.string (⟨#[]⟩:ByteArray),.string (⟨#[]⟩:ByteArray)] 37 ?_;intro m hg Z hbox hb;have n_:=qn4 (Qfy qq_b hb) (hbox) (qq_s hg:w.heap.size≤m) (qq_s hg:w.heap.size≤m);clear HB;obtain⟨HB,n,q,s⟩:=n_;clear hb hbox hg;obtain⟨y,z,A,B⟩:=qc4 n.out;have P:=Qej n.out))
        go_ret
        exact⟨qq_5,qq_b⟩
       ·rw[if_neg c10]at H;have u:decide (a2<(((Qjw l0 a).f3).size:Int))=false:=decide_eq_false c10;clear c10;have H':=QA H;clear H;have j:0≤(a:Int):=of_decide_eq_true qq_3;have l:a<(l0.length:Int):=of_decide_eq_true qq_3;obtain⟨p,o,b,c,d,g⟩:=Qjx t.out a j l
        cases o
        replace b:=qq_h HB.out b;replace c:=qq_h HB.out c;replace d:=qq_h HB.out d;replace g:=qq_h HB.out g;replace j:=eq_true j;replace l:=eq_true l
        go_wp2_with (first |((with_reducible refine Qgj (N:=8) rfl ?_);(try(refine Qiy (by rfl) ?_;dsimp only));refine qq_e 8 #[.bool false,.int .u64 0,.string (⟨#[]⟩:ByteArray),.string (⟨#[]⟩:ByteArray)] 37 ?_;intro m hg aa hbox hb;have n_:=qn4 (Qfy qq_b hb) (hbox) (qq_s hg:w.heap.size≤m) (qq_s hg:w.heap.size≤m);clear HB;obtain⟨HB,n,q,s⟩:=n_;clear hb hbox hg;obtain⟨D,E,G,I⟩:=qc4 n.out;have T:=Qej n.out))
        go_roundg k1
        case measure=>have:=HK1.out;omega
        case rel=>exact⟨(wrap64 (a+1)),qq_7,H',⟨by have:=HK1.out;omega⟩,⟨qq_b⟩⟩
     ·rw[if_neg c6]at H;exact absurd H (by simp)
    ·rw[if_neg c5]at H;exact absurd H (by simp)
   ·rw[if_neg c4]at H;have v:=decide_eq_false c4;clear c4;obtain rfl:=Option.some.inj H;go_wp2;go_ret
    exact⟨qq_5,qq_b⟩
def Qbh.f:Nat→Int→Option (ByteArray)
 | 0,_=>none
 | k+1,a0=>if a0<128 then(some (strOfNums (([(a0)%256]:List Int))))else((some (([(IntKind.u64.wrap (128+(Int.tmod a0 128)))%256]:List Int):List Int)).bind fun y151=>((Qbh.f k (IntKind.u64.wrap (Int.tdiv a0 128))).bind fun t154=>(if(strOfNums y151).size+t154.size≤9223372036854775807 then(some ((strOfNums y151)++t154))else(none))))
def Qbh.T3:Bool × List (List Nat × List Nat):=(true,[([],[]),([0],[0]),([1],[1]),([2],[2]),([3],[3]),([4],[4]),([],[]),([6],[6]),([7],[7]),([5,8],[5,8]),([9,8,0,1,2,3,4,5,6,7,8,9],[9])])
def Qbh.B3:List Nat:=[0,1,3,7,15,31,0,64,192,511,1023]
theorem Qbh.tab3:rtab .any (Qin Tryz.f135 3)=Qbh.T3:=by kernel_rfl
theorem Qbh.bits3:Qih Qbh.T3.2 Qbh.B3=true:=by kernel_rfl
theorem Qbh.calls(k:Nat):∀(a0:Int) (r:ByteArray) (w:World) (h:Qbh.f k a0=some r),
  Calls Tryz.prog 135 #[.int .u64 a0] w fun e w'=>e=.returned (.string r)∧Below w.heap.size w w':=by
 induction k using Nat.strongRecOn with
 | _ k ih =>
 intro a0 r w h
 cases k with
 | zero=>exact absurd h (by simp[Qbh.f])
 | succ k =>
 simp only[Qbh.f]at h;have HB:=QA (Below.refl w.heap.size w);have H:(if a0<128 then(some (strOfNums (([(a0)%256]:List Int))))else((some (([(IntKind.u64.wrap (128+(Int.tmod a0 128)))%256]:List Int):List Int)).bind fun d=>((Qbh.f k (IntKind.u64.wrap (Int.tdiv a0 128))).bind fun b=>(if(strOfNums d).size+b.size≤9223372036854775807 then(some ((strOfNums d)++b))else(none)))))=some r:=h;clear h
 by_cases c2:a0<128
 ·rw[if_pos c2]at H;have J:=decide_eq_true c2;clear c2;obtain⟨L,g⟩:∃y_:List Int,y_=(([(a0)%256]:List Int)):=⟨_,rfl⟩;replace H:(some (strOfNums L))=some r:=by first |(rw[g];with_reducible exact H) |(have p:=(Option.bind_some _ _).symm.trans H;rw[g];with_reducible exact p) |(have p:=(Option.bind_some _ _).symm.trans H;with_reducible exact p)|with_reducible exact H |(rw[g];exact H)|exact H
  have x:=QA g;clear g;obtain rfl:=Option.some.inj H
  go_enter Tryz.func135,Tryz.ntmps135
  go_wp2_with (first |((with_reducible refine Qgj (N:=7) rfl ?_);refine Kd.R_lit (Kd.int .u8) _ 5 ?hg (N:=7) ?hd (xs:=([(a0)%256]:List Int)) (inner:=[.int .u8 ((a0)%256)]) (ok:=fun _=>True) (okp:=fun _=>True) ?hr ?hp (fun _ hk=>hk) trivial (Below.refl _ _) (Nat.le_refl _) (by simp) ?_;(case hd=>rfl);(case hg=>rfl);(case hr=>exact qq_20);(case hp=>exact(Reps.one (show Kd.M (Kd.int .u8) _ _ _ ((a0)%256) [.int .u8 ((a0)%256)] from rfl) (Reps.none _ _)));intro O w3 u hb hg_ hnew_;clear hg_ hnew_;(first|rw[← x.out]at u |(simp only[Int.reduceToNat]at u;rw[← x.out]at u));have n_:=qn2 (Kd.R_lower u (Qfx qq_b)) (Qfy qq_b hb);clear HB;obtain⟨y,HB⟩:=n_;clear hb u;have T:=Qdt (P:=Tryz.prog) Tryz.underlying40 Tryz.underlying5 Tryz.underlying9 (Kd.own_of_R y.out)))
  go_ret
  exact⟨qq_5,qq_b⟩
 ·rw [if_neg c2]at H;have J:=decide_eq_false c2;clear c2;obtain⟨d,l⟩:∃y_:List Int,y_=(([(IntKind.u64.wrap (128+(Int.tmod a0 128)))%256]:List Int)):=⟨_,rfl⟩;replace H:((Qbh.f k (IntKind.u64.wrap (Int.tdiv a0 128))).bind fun b=>(if(strOfNums d).size+b.size≤9223372036854775807 then(some ((strOfNums d)++b))else(none)))=some r:=by first |(rw[l];with_reducible exact H) |(have p:=(Option.bind_some _ _).symm.trans H;rw[l];with_reducible exact p) |(have p:=(Option.bind_some _ _).symm.trans H;with_reducible exact p)|with_reducible exact H |(rw[l];exact H)|exact H
  have o:=QA l;clear l;replace H:=Option.bind_eq_some_iff.mp H;obtain⟨b,A,H⟩:=H;have A6:=QA A;clear A
  by_cases c7:(strOfNums d).size+b.size≤9223372036854775807
  ·rw [if_pos c7]at H;have U:=eq_true c7;have W:=decide_eq_true c7
   try have X:(9223372036854775807<(strOfNums d).size+b.size)=False:=eq_false (Nat.not_lt.2 c7)
   obtain rfl:=Option.some.inj H
   go_enter Tryz.func135,Tryz.ntmps135
   try go_wp2
   have n_:=qn1 (Qgf HB.out);clear HB;have HB:=n_;clear n_;refine Qgv (n:=11) (S:=fun w'=>True) (ds:=[]) (bm 11 0) qq_6 rfl rfl trivial (fun a=>?_);refine Qil Qbh.tab3 Qbh.bits3 (fun HT_ HW_=>?_);generalize w.drew=w8 at HB a ⊢;refine pz_ (i:=0) (N:=some 9) (bm 11 1) (Qid HT_.out qq_6) ?_;refine pz_ (i:=1) (N:=some 10) (bm 11 3) (Qid HT_.out qq_6) ?_;refine pz_ (i:=2) (N:=some 11) (bm 11 7) (Qid HT_.out qq_6) ?_;refine pz_ (i:=3) (N:=some 12) (bm 11 15) (Qid HT_.out qq_6) ?_;refine pz_ (i:=6) (N:=some 15) (bm 11 79) (Qid HT_.out qq_6) ?_;refine pz_ (i:=7) (N:=some 16) (bm 11 207) (Qid HT_.out qq_6) ?_;refine Qhb (σ:=Value) 2 (bm 11 511) (fun s_=>[(13,s_),(14,.string (strOfNums d)),(17,.string b)]) (fun s_ w'=>(Kd.R (Kd.int .u8) 5 w' w.heap.size (fun _=>True) s_ d)∧(Below w.heap.size w w')) ?_ ?_;rotate_left
   ·intro hCont;refine two_ (i:=4) (j:=8) (Ni:=some 13) (Nj:=some 17) (bm 11 223) (bm 11 463) rfl rfl rfl rfl (Qif HT_.out qq_6) (by decide) (by decide) (fun K hK=>?_) (fun K hK=>?_)
    ·skip
     refine Kd.R_lit_step (Kd.int .u8) _ 5 ?hg (N:=13) ?hd (xs:=([(IntKind.u64.wrap (128+(Int.tmod a0 128)))%256]:List Int)) (inner:=[.int .u8 ((IntKind.u64.wrap (128+(Int.tmod a0 128)))%256)]) (ok:=fun _=>True) (okp:=fun _=>True) ?hr ?hp (fun _ hk=>hk) trivial (Below.refl _ _) (Nat.le_refl _) (by simp) ?_;(case hd=>rfl);(case hg=>rfl);(case hr=>exact qq_20);(case hp=>exact(Reps.one (show Kd.M (Kd.int .u8) _ _ _ ((IntKind.u64.wrap (128+(Int.tmod a0 128)))%256) [.int .u8 ((IntKind.u64.wrap (128+(Int.tmod a0 128)))%256)] from rfl) (Reps.none _ _)));intro m w9 q hb hg_ hnew_;clear hg_ hnew_
     (first|rw[← o.out]at q |(simp only[Int.reduceToNat]at q;rw[← o.out]at q))
     have n_:=qn2 (Kd.R_lower q (Qfx qq_b)) (Qfy qq_b hb);clear HB;obtain⟨c,HB⟩:=n_;clear hb q;refine hK.out _ _ trivial (fun a=>?_);clear hK K;refine nzp_ 13 ?_;refine two_ (i:=5) (j:=8) (Ni:=some 14) (Nj:=some 17) (bm 11 255) (bm 11 479) rfl rfl rfl rfl (Qif HT_.out qq_6) (by decide) (by decide) (fun K hK=>?_) (fun K hK=>?_)
     ·skip
      have z:=Qdt (P:=Tryz.prog) Tryz.underlying40 Tryz.underlying5 Tryz.underlying9 (Kd.own_of_R c.out);refine Qhg (w1:=?_) (v:=?_) (by rfl) rfl ?_ ?_;rotate_left 2
      ·go_simp
       constructor
       ·rfl
       ·rfl
      clear z;refine hK.out _ _ trivial (fun a=>?_);clear hK K;refine nzp_ 14 ?_;refine one_ (i:=8) (N:=some 17) (bm 11 511) rfl rfl (Qie HT_.out qq_6) (by decide) (fun K hK=>?_);refine Qhe Tryz.func135 qq_6 rfl #[.int .u64 (IntKind.u64.wrap (Int.tdiv a0 128))] (by rfl) rfl rfl qq_1 ?_;with_reducible refine(ih k (by omega) (IntKind.u64.wrap (Int.tdiv a0 128)) b _ A6.out).mono ?_
      rintro e Y ⟨rfl,hb⟩;refine⟨_,rfl,?_⟩;have n_:=qn2 (Kd.R_below qq_4 hb) (Qfy qq_b hb);clear c HB;obtain⟨c,HB⟩:=n_
      (try clear hb)
      (try clear hb2)
      (try clear hk)
      (try clear hi)
      refine hK.out _ _ trivial (fun a=>?_);clear hK K;refine nzp_ 17 ?_;exact Qhc (by simp only[Qha,Act.put,List.setIfInBounds_toArray,List.set_cons_zero,List.set_cons_succ]) (hCont (m) _ ⟨qq_4,qq_b⟩)
     ·skip
      refine Qhe Tryz.func135 qq_6 rfl #[.int .u64 (IntKind.u64.wrap (Int.tdiv a0 128))] (by rfl) rfl rfl qq_1 ?_;with_reducible refine(ih k (by omega) (IntKind.u64.wrap (Int.tdiv a0 128)) b _ A6.out).mono ?_
      rintro e Z ⟨rfl,hb⟩;refine⟨_,rfl,?_⟩;have n_:=qn2 (Kd.R_below qq_4 hb) (Qfy qq_b hb);clear c HB;obtain⟨c,HB⟩:=n_
      (try clear hb)
      (try clear hb2)
      (try clear hk)
      (try clear hi)
      refine hK.out _ _ trivial (fun a=>?_);clear hK K;refine nzp_ 17 ?_;refine one_ (i:=5) (N:=some 14) (bm 11 511) rfl rfl (Qie HT_.out qq_6) (by decide) (fun K hK=>?_);have t:=Qdt (P:=Tryz.prog) Tryz.underlying40 Tryz.underlying5 Tryz.underlying9 (Kd.own_of_R c.out);refine Qhg (w1:=?_) (v:=?_) (by rfl) rfl ?_ ?_;rotate_left 2
      ·go_simp
       constructor
       ·rfl
       ·rfl
      clear t;refine hK.out _ _ trivial (fun a=>?_);clear hK K;refine nzp_ 14 ?_;exact Qhc (by simp only[Qha,Act.put,List.setIfInBounds_toArray,List.set_cons_zero,List.set_cons_succ]) (hCont (m) _ ⟨qq_4,qq_b⟩)
    ·skip
     refine Qhe Tryz.func135 qq_6 rfl #[.int .u64 (IntKind.u64.wrap (Int.tdiv a0 128))] (by rfl) rfl rfl qq_1 ?_;with_reducible refine(ih k (by omega) (IntKind.u64.wrap (Int.tdiv a0 128)) b _ A6.out).mono ?_
     rintro e w9 ⟨rfl,hb⟩;refine⟨_,rfl,?_⟩;have n_:=qn1 (Qfy qq_b hb);clear HB;have HB:=n_;clear n_
     (try clear hb)
     (try clear hb2)
     (try clear hk)
     (try clear hi)
     refine hK.out _ _ trivial (fun a=>?_);clear hK K;refine nzp_ 17 ?_;refine one_ (i:=4) (N:=some 13) (bm 11 479) rfl rfl (Qie HT_.out qq_6) (by decide) (fun K hK=>?_);refine Kd.R_lit_step (Kd.int .u8) _ 5 ?hg (N:=13) ?hd (xs:=([(IntKind.u64.wrap (128+(Int.tmod a0 128)))%256]:List Int)) (inner:=[.int .u8 ((IntKind.u64.wrap (128+(Int.tmod a0 128)))%256)]) (ok:=fun _=>True) (okp:=fun _=>True) ?hr ?hp (fun _ hk=>hk) trivial (Below.refl _ _) (Nat.le_refl _) (by simp) ?_;(case hd=>rfl);(case hg=>rfl);(case hr=>exact qq_20);(case hp=>exact(Reps.one (show Kd.M (Kd.int .u8) _ _ _ ((IntKind.u64.wrap (128+(Int.tmod a0 128)))%256) [.int .u8 ((IntKind.u64.wrap (128+(Int.tmod a0 128)))%256)] from rfl) (Reps.none _ _)));intro m aa s hb hg_ hnew_;clear hg_ hnew_
     (first|rw[← o.out]at s |(simp only[Int.reduceToNat]at s;rw[← o.out]at s))
     have n_:=qn2 (Kd.R_lower s (Qfx qq_b)) (Qfy qq_b hb);clear HB;obtain⟨c,HB⟩:=n_;clear hb s;refine hK.out _ _ trivial (fun a=>?_);clear hK K;refine nzp_ 13 ?_;refine one_ (i:=5) (N:=some 14) (bm 11 511) rfl rfl (Qie HT_.out qq_6) (by decide) (fun K hK=>?_);have t:=Qdt (P:=Tryz.prog) Tryz.underlying40 Tryz.underlying5 Tryz.underlying9 (Kd.own_of_R c.out);refine Qhg (w1:=?_) (v:=?_) (by rfl) rfl ?_ ?_;rotate_left 2
     ·go_simp
      constructor
      ·rfl
      ·rfl
     clear t;refine hK.out _ _ trivial (fun a=>?_);clear hK K;refine nzp_ 14 ?_;exact Qhc (by simp only[Qha,Act.put,List.setIfInBounds_toArray,List.set_cons_zero,List.set_cons_succ]) (hCont (m) _ ⟨qq_4,qq_b⟩)
   rintro m B ⟨D,E⟩;have G:Aside0 (Kd.R (Kd.int .u8) 5 B w.heap.size (fun _=>True) m d):=⟨D⟩;have I:Aside0 (Below w.heap.size w B):=⟨E⟩;clear HB D E;have c:=G;have HB:=I;clear G I;have a:=trivial;refine nza_ ?_;refine pz_ (i:=9) (N:=some 18) (bm 11 1023) (Qid HT_.out qq_6) ?_;refine pz_ (i:=10) (N:=some 2) (bm 11 2047) (Qid HT_.out qq_6) ?_;refine Qgz (Qig HT_.out qq_6) ?_
   try go_wp2
   go_ret
   exact⟨qq_5,qq_b⟩
  ·rw[if_neg c7]at H;exact absurd H (by simp)
def Qbf.l0:Nat→Int→ByteArray→Int→Int→Option (ByteArray)
 | 0,_,_,_,_=>none
 | k+1,x0,x5,x6,x7=>if x7<x6 then((some (([(Int.tmod x0 256)%256]:List Int):List Int)).bind fun y130=>(if x5.size+(strOfNums y130).size≤9223372036854775807 then(Qbf.l0 k (IntKind.u64.wrap (Int.tdiv x0 256)) (x5++(strOfNums y130)) x6 (wrap64 (x7+1)))else(none)))else(some x5)
def Qbf.f(k:Nat)(a0:Int)(a1:Int):Option (ByteArray):=Qbf.l0 k a0 (⟨#[]⟩:ByteArray) a1 0
theorem Qbf.calls(k:Nat)(a0:Int)(a1:Int)(r:ByteArray)(w:World)(h:Qbf.f k a0 a1=some r) :
  Calls Tryz.prog 133 #[.int .u64 a0,.int .i64 a1] w fun e w'=>e=.returned (.string r)∧Below w.heap.size w w':=by
 have HB:=QA (Below.refl w.heap.size w);have H:(Qbf.l0 k a0 (⟨#[]⟩:ByteArray) a1 0)=some r:=h;clear h;have H':=QA H;clear H
 go_enter Tryz.func133,Tryz.ntmps133
 go_wp2
 go_loopg [0,5,7] k (fun kq v0 v5 v7 w'=>∃(a:Int) (b:ByteArray) (d:Int),v0=.int .u64 a∧v5=.string b∧v7=.int .i64 d∧Aside0 (Qbf.l0 kq a b a1 d=some r)∧Aside0 (kq≤k)∧Aside0 (Below w.heap.size w w'))
 case atStart=>exact⟨(a0),((⟨#[]⟩:ByteArray)),(0),qq_7,qq_7,qq_7,H',⟨Nat.le_refl _⟩,⟨qq_b⟩⟩
 case round =>
  clear H';obtain⟨a,b,d,rfl,rfl,rfl,HA,HK1,HB⟩:=hrel
  cases gk with
  | zero=>exact absurd HA.out (by simp[Qbf.l0])
  | succ k1 =>
   have H:=HA.out;clear HA;simp only[Qbf.l0]at H
   by_cases c3:d<a1
   ·rw[if_pos c3]at H;have o:=decide_eq_true c3;clear c3;obtain⟨g,c⟩:∃y_:List Int,y_=(([(Int.tmod a 256)%256]:List Int)):=⟨_,rfl⟩;replace H:(if b.size+(strOfNums g).size≤9223372036854775807 then(Qbf.l0 k1 (IntKind.u64.wrap (Int.tdiv a 256)) (b++(strOfNums g)) a1 (wrap64 (d+1)))else(none))=some r:=by first |(rw[c];with_reducible exact H) |(have m:=(Option.bind_some _ _).symm.trans H;rw[c];with_reducible exact m) |(have m:=(Option.bind_some _ _).symm.trans H;with_reducible exact m)|with_reducible exact H |(rw[c];exact H)|exact H
    have l:=QA c;clear c
    by_cases c4:b.size+(strOfNums g).size≤9223372036854775807
    ·rw[if_pos c4]at H;have p:=eq_true c4;have q:=decide_eq_true c4
     try have s:(9223372036854775807<b.size+(strOfNums g).size)=False:=eq_false (Nat.not_lt.2 c4)
     have H':=QA H;clear H
     go_wp2_with (first |((with_reducible refine Qgj (N:=13) rfl ?_);refine Kd.R_lit (Kd.int .u8) _ 5 ?hg (N:=13) ?hd (xs:=([(Int.tmod a 256)%256]:List Int)) (inner:=[.int .u8 ((Int.tmod a 256)%256)]) (ok:=fun _=>True) (okp:=fun _=>True) ?hr ?hp (fun _ hk=>hk) trivial (Below.refl _ _) (Nat.le_refl _) (by simp) ?_;(case hd=>rfl);(case hg=>rfl);(case hr=>exact qq_20);(case hp=>exact(Reps.one (show Kd.M (Kd.int .u8) _ _ _ ((Int.tmod a 256)%256) [.int .u8 ((Int.tmod a 256)%256)] from rfl) (Reps.none _ _)));intro t w5 j hb hg_ hnew_;clear hg_ hnew_;(first|rw[← l.out]at j |(simp only[Int.reduceToNat]at j;rw[← l.out]at j));have n_:=qn2 (Kd.R_lower j (Qfx qq_b)) (Qfy qq_b hb);clear HB;obtain⟨n,HB⟩:=n_;clear hb j;have u:=Qdt (P:=Tryz.prog) Tryz.underlying40 Tryz.underlying5 Tryz.underlying9 (Kd.own_of_R n.out)))
     go_roundg k1
     case measure=>have:=HK1.out;omega
     case rel=>exact⟨(IntKind.u64.wrap (Int.tdiv a 256)),(b++(strOfNums g)),(wrap64 (d+1)),qq_7,qq_7,qq_7,H',⟨by have:=HK1.out;omega⟩,⟨qq_b⟩⟩
    ·rw[if_neg c4]at H;exact absurd H (by simp)
   ·rw[if_neg c3]at H;have o:=decide_eq_false c3;clear c3;obtain rfl:=Option.some.inj H;go_wp2;go_ret
    exact⟨qq_5,qq_b⟩
def Qbg.l0:Nat→ByteArray→Int→Int→Option (Int)
 | 0,_,_,_=>none
 | k+1,x0,x3,x4=>if x4≥0 then(if 0≤x4 then(if x4<(x0.size:Int)then(Qbg.l0 k x0 (IntKind.u64.wrap ((IntKind.u64.wrap (x3*256))+(IntKind.u64.wrap (bt x0 x4)))) (wrap64 (x4-1)))else(none))else(none))else(some x3)
def Qbg.f(k:Nat)(a0:ByteArray):Option (Int):=Qbg.l0 k a0 0 (wrap64 ((a0.size:Int)-1))
theorem Qbg.mono_l:∀k,(∀y0 y1 y2,LeO (Qbg.l0 k y0 y1 y2) (Qbg.l0 (k+1) y0 y1 y2))
 | 0=>fun _ _ _ r h=>by simp[Qbg.l0]at h
 | k+1=>by
  have ih0:=Qbg.mono_l k
  ·intro y0 y1 y2;unfold Qbg.l0
   repeat' first
   |(with_reducible exact ih0 _ _ _)
   |(with_reducible exact LeO.refl _)
   |(with_reducible exact LeO.none _)
   |(with_reducible refine LeO.ite ?_ ?_)
   |(with_reducible refine LeO.bind ?_ (fun _=>?_))
   | exact ih0 _ _ _
   | exact LeO.none _
   | refine LeO.ite ?_ ?_
   | refine LeO.bind ?_ (fun _=>?_)
theorem Qbg.mono:∀a0 k,LeO (Qbg.f k a0) (Qbg.f (k+1) a0):=by
 intro a0 k;have ih0:=Qbg.mono_l k;unfold Qbg.f
 repeat' first
   |(with_reducible exact ih0 _ _ _)
   |(with_reducible exact LeO.refl _)
   |(with_reducible exact LeO.none _)
   |(with_reducible refine LeO.ite ?_ ?_)
   |(with_reducible refine LeO.bind ?_ (fun _=>?_))
   | exact ih0 _ _ _
   | exact LeO.none _
   | refine LeO.ite ?_ ?_
   | refine LeO.bind ?_ (fun _=>?_)
theorem Qbg.calls(k:Nat)(a0:ByteArray)(r:Int)(w:World)(h:Qbg.f k a0=some r) :
  Calls Tryz.prog 186 #[.string a0] w fun e w'=>e=.returned (.int .u64 r)∧Drawn0 w w':=by
 have H:(Qbg.l0 k a0 0 (wrap64 ((a0.size:Int)-1)))=some r:=h;clear h;have H':=QA H;clear H
 go_enter Tryz.func186,Tryz.ntmps186
 go_wp2
 go_loopg [3,4] k (fun kq v3 v4 w'=>∃(b:Int) (a:Int),v3=.int .u64 b∧v4=.int .i64 a∧Aside0 (Qbg.l0 kq a0 b a=some r)∧Aside0 (kq≤k)∧Drawn0 w w')
 case atStart=>exact⟨(0),(wrap64 ((a0.size:Int)-1)),qq_7,qq_7,H',⟨Nat.le_refl _⟩,by repeat(first|exact Drawn0.refl _|apply Drawn0.step)⟩
 case round =>
  clear H';obtain⟨b,a,rfl,rfl,HA,HK1,⟨m1,rfl⟩⟩:=hrel
  cases gk with
  | zero=>exact absurd HA.out (by simp[Qbg.l0])
  | succ k1 =>
   have H:=HA.out;clear HA;simp only[Qbg.l0]at H
   by_cases c2:a≥0
   ·rw[if_pos c2]at H;have c:decide (0≤a)=true:=decide_eq_true c2;clear c2
    by_cases c3:0≤a
    ·rw[if_pos c3]at H;have d:=decide_eq_true c3;clear c3
     by_cases c4:a<(a0.size:Int)
     ·rw[if_pos c4]at H;have g:=decide_eq_true c4;clear c4;have H':=QA H;clear H;have p5:0≤(a:Int):=of_decide_eq_true qq_3;have q5:a<(a0.size:Int):=of_decide_eq_true qq_3;have j:=Qdi a0 a;replace p5:=eq_true p5;replace q5:=eq_true q5;go_wp2
      go_roundg k1
      case measure=>have:=HK1.out;omega
      case rel=>exact⟨(IntKind.u64.wrap ((IntKind.u64.wrap (b*256))+(IntKind.u64.wrap (bt a0 a)))),(wrap64 (a-1)),qq_7,qq_7,H',⟨by have:=HK1.out;omega⟩,by repeat(first|exact Drawn0.refl _|apply Drawn0.step)⟩
     ·rw[if_neg c4]at H;exact absurd H (by simp)
    ·rw[if_neg c3]at H;exact absurd H (by simp)
   ·rw[if_neg c2]at H;have c:decide (0≤a)=false:=decide_eq_false c2;clear c2;obtain rfl:=Option.some.inj H;go_wp2;go_ret
    exact⟨by first|rfl |(simp;done) |(simp[*];done),by repeat(first|exact Drawn0.refl _|apply Drawn0.step)⟩
def Qbn.l0:Nat→Int→Int→Int→Option (Int)
 | 0,_,_,_=>none
 | k+1,x0,x6,x7=>if x7<x6 then(Qbn.l0 k (IntKind.u64.wrap ((IntKind.u64.wrap (2*x0))+(IntKind.u64.wrap (Int.tdiv x0 9223372036854775808)))) x6 (wrap64 (x7+1)))else(some x0)
def Qbn.f(k:Nat)(a0:Int)(a1:Int):Option (Int):=Qbn.l0 k a0 a1 0
theorem Qbn.mono_l:∀k,(∀y0 y1 y2,LeO (Qbn.l0 k y0 y1 y2) (Qbn.l0 (k+1) y0 y1 y2))
 | 0=>fun _ _ _ r h=>by simp[Qbn.l0]at h
 | k+1=>by
  have ih0:=Qbn.mono_l k
  ·intro y0 y1 y2;unfold Qbn.l0
   repeat' first
   |(with_reducible exact ih0 _ _ _)
   |(with_reducible exact LeO.refl _)
   |(with_reducible exact LeO.none _)
   |(with_reducible refine LeO.ite ?_ ?_)
   |(with_reducible refine LeO.bind ?_ (fun _=>?_))
   | exact ih0 _ _ _
   | exact LeO.none _
   | refine LeO.ite ?_ ?_
   | refine LeO.bind ?_ (fun _=>?_)
theorem Qbn.mono:∀a0 a1 k,LeO (Qbn.f k a0 a1) (Qbn.f (k+1) a0 a1):=by
 intro a0 a1 k;have ih0:=Qbn.mono_l k;unfold Qbn.f
 repeat' first
   |(with_reducible exact ih0 _ _ _)
   |(with_reducible exact LeO.refl _)
   |(with_reducible exact LeO.none _)
   |(with_reducible refine LeO.ite ?_ ?_)
   |(with_reducible refine LeO.bind ?_ (fun _=>?_))
   | exact ih0 _ _ _
   | exact LeO.none _
   | refine LeO.ite ?_ ?_
   | refine LeO.bind ?_ (fun _=>?_)
theorem Qbn.calls(k:Nat)(a0:Int)(a1:Int)(r:Int)(w:World)(h:Qbn.f k a0 a1=some r) :
  Calls Tryz.prog 192 #[.int .u64 a0,.int .i64 a1] w fun e w'=>e=.returned (.int .u64 r)∧Drawn0 w w':=by
 have H:(Qbn.l0 k a0 a1 0)=some r:=h;clear h;have H':=QA H;clear H
 go_enter Tryz.func192,Tryz.ntmps192
 go_wp2
 go_loopg [0,7] k (fun kq v0 v7 w'=>∃(a:Int) (b:Int),v0=.int .u64 a∧v7=.int .i64 b∧Aside0 (Qbn.l0 kq a a1 b=some r)∧Aside0 (kq≤k)∧Drawn0 w w')
 case atStart=>exact⟨(a0),(0),qq_7,qq_7,H',⟨Nat.le_refl _⟩,by repeat(first|exact Drawn0.refl _|apply Drawn0.step)⟩
 case round =>
  clear H';obtain⟨a,b,rfl,rfl,HA,HK1,⟨m1,rfl⟩⟩:=hrel
  cases gk with
  | zero=>exact absurd HA.out (by simp[Qbn.l0])
  | succ k1 =>
   have H:=HA.out;clear HA;simp only[Qbn.l0]at H
   by_cases c3:b<a1
   ·rw[if_pos c3]at H;have c:=decide_eq_true c3;clear c3;have H':=QA H;clear H;go_wp2
    go_roundg k1
    case measure=>have:=HK1.out;omega
    case rel=>exact⟨(IntKind.u64.wrap ((IntKind.u64.wrap (2*a))+(IntKind.u64.wrap (Int.tdiv a 9223372036854775808)))),(wrap64 (b+1)),qq_7,qq_7,H',⟨by have:=HK1.out;omega⟩,by repeat(first|exact Drawn0.refl _|apply Drawn0.step)⟩
   ·rw[if_neg c3]at H;have c:=decide_eq_false c3;clear c3;obtain rfl:=Option.some.inj H;go_wp2;go_ret
    exact⟨by first|rfl |(simp;done) |(simp[*];done),by repeat(first|exact Drawn0.refl _|apply Drawn0.step)⟩
def Qbl.f(k:Nat)(a0:Int)(a1:Int):Option (Int):=(Qbn.f k (IntKind.u64.wrap (a0+(IntKind.u64.wrap (a1*14029467366897019727)))) 31).bind fun t133=>(some (IntKind.u64.wrap (t133*11400714785074694791)))
theorem Qbl.mono:∀a0 a1 k,LeO (Qbl.f k a0 a1) (Qbl.f (k+1) a0 a1):=by
 intro a0 a1 k;unfold Qbl.f
 repeat' first
   |(with_reducible exact Qbn.mono _ _ _)
   |(with_reducible exact LeO.refl _)
   |(with_reducible exact LeO.none _)
   |(with_reducible refine LeO.ite ?_ ?_)
   |(with_reducible refine LeO.bind ?_ (fun _=>?_))
   | exact Qbn.mono _ _ _
   | exact LeO.none _
   | refine LeO.ite ?_ ?_
   | refine LeO.bind ?_ (fun _=>?_)
theorem Qbl.calls(k:Nat)(a0:Int)(a1:Int)(r:Int)(w:World)(h:Qbl.f k a0 a1=some r) :
  Calls Tryz.prog 191 #[.int .u64 a0,.int .u64 a1] w fun e w'=>e=.returned (.int .u64 r)∧Drawn0 w w':=by
 have H:((Qbn.f k (IntKind.u64.wrap (a0+(IntKind.u64.wrap (a1*14029467366897019727)))) 31).bind fun t133=>(some (IntKind.u64.wrap (t133*11400714785074694791))))=some r:=h;clear h;replace H:=Option.bind_eq_some_iff.mp H;obtain⟨t133,A30,H⟩:=H;have A3:=QA A30;clear A30;obtain rfl:=Option.some.inj H
 go_enter Tryz.func191,Tryz.ntmps191
 go_wp2_with (first |((with_reducible refine Qjh (f:=192) rfl ?_);refine Qhf (some 9) rfl rfl Tryz.func192 qq_6 rfl #[.int .u64 (IntKind.u64.wrap (a0+(IntKind.u64.wrap (a1*14029467366897019727)))),.int .i64 31] rfl qq_1 ?_;(with_reducible refine(Qbn.calls k (IntKind.u64.wrap (a0+(IntKind.u64.wrap (a1*14029467366897019727)))) 31 t133 _ A3.out).mono ?_);rintro e w' ⟨rfl,⟨nd,rfl⟩⟩;refine⟨_,rfl,?_⟩))
 go_ret
 exact⟨by first|rfl |(simp;done) |(simp[*];done),by repeat(first|exact Drawn0.refl _|apply Drawn0.step)⟩
def Qbm.l0:Nat→Int→Int→Int→Int→Option (Int)
 | 0,_,_,_,_=>none
 | k+1,x0,x5,x7,x8=>if x8<x7 then(Qbm.l0 k x0 (IntKind.u64.wrap (Int.tdiv x5 2)) x7 (wrap64 (x8+1)))else(some (Go.bits .xor .u64 x0 x5))
def Qbm.f(k:Nat)(a0:Int)(a1:Int):Option (Int):=Qbm.l0 k a0 a0 a1 0
theorem Qbm.mono_l:∀k,(∀y0 y1 y2 y3,LeO (Qbm.l0 k y0 y1 y2 y3) (Qbm.l0 (k+1) y0 y1 y2 y3))
 | 0=>fun _ _ _ _ r h=>by simp[Qbm.l0]at h
 | k+1=>by
  have ih0:=Qbm.mono_l k
  ·intro y0 y1 y2 y3;unfold Qbm.l0
   repeat' first
   |(with_reducible exact ih0 _ _ _ _)
   |(with_reducible exact LeO.refl _)
   |(with_reducible exact LeO.none _)
   |(with_reducible refine LeO.ite ?_ ?_)
   |(with_reducible refine LeO.bind ?_ (fun _=>?_))
   | exact ih0 _ _ _ _
   | exact LeO.none _
   | refine LeO.ite ?_ ?_
   | refine LeO.bind ?_ (fun _=>?_)
theorem Qbm.mono:∀a0 a1 k,LeO (Qbm.f k a0 a1) (Qbm.f (k+1) a0 a1):=by
 intro a0 a1 k;have ih0:=Qbm.mono_l k;unfold Qbm.f
 repeat' first
   |(with_reducible exact ih0 _ _ _ _)
   |(with_reducible exact LeO.refl _)
   |(with_reducible exact LeO.none _)
   |(with_reducible refine LeO.ite ?_ ?_)
   |(with_reducible refine LeO.bind ?_ (fun _=>?_))
   | exact ih0 _ _ _ _
   | exact LeO.none _
   | refine LeO.ite ?_ ?_
   | refine LeO.bind ?_ (fun _=>?_)
theorem Qbm.calls(k:Nat)(a0:Int)(a1:Int)(r:Int)(w:World)(h:Qbm.f k a0 a1=some r) :
  Calls Tryz.prog 193 #[.int .u64 a0,.int .i64 a1] w fun e w'=>e=.returned (.int .u64 r)∧Drawn0 w w':=by
 have H:(Qbm.l0 k a0 a0 a1 0)=some r:=h;clear h;have H':=QA H;clear H
 go_enter Tryz.func193,Tryz.ntmps193
 go_wp2
 go_loopg [5,8] k (fun kq v5 v8 w'=>∃(b:Int) (a:Int),v5=.int .u64 b∧v8=.int .i64 a∧Aside0 (Qbm.l0 kq a0 b a1 a=some r)∧Aside0 (kq≤k)∧Drawn0 w w')
 case atStart=>exact⟨(a0),(0),qq_7,qq_7,H',⟨Nat.le_refl _⟩,by repeat(first|exact Drawn0.refl _|apply Drawn0.step)⟩
 case round =>
  clear H';obtain⟨b,a,rfl,rfl,HA,HK1,⟨m1,rfl⟩⟩:=hrel
  cases gk with
  | zero=>exact absurd HA.out (by simp[Qbm.l0])
  | succ k1 =>
   have H:=HA.out;clear HA;simp only[Qbm.l0]at H
   by_cases c3:a<a1
   ·rw[if_pos c3]at H;have c:=decide_eq_true c3;clear c3;have H':=QA H;clear H;go_wp2
    go_roundg k1
    case measure=>have:=HK1.out;omega
    case rel=>exact⟨(IntKind.u64.wrap (Int.tdiv b 2)),(wrap64 (a+1)),qq_7,qq_7,H',⟨by have:=HK1.out;omega⟩,by repeat(first|exact Drawn0.refl _|apply Drawn0.step)⟩
   ·rw[if_neg c3]at H;have c:=decide_eq_false c3;clear c3;obtain rfl:=Option.some.inj H;go_wp2;go_ret
    exact⟨by first|rfl |(simp;done) |(simp[*];done),by repeat(first|exact Drawn0.refl _|apply Drawn0.step)⟩
def Qad.f(a0:Int)(a1:Int):Option (Int):=if 0≤(Go.bits .and .u64 (IntKind.u64.wrap (a1)) 63)then(if 0≤(IntKind.u64.wrap (64-(Go.bits .and .u64 (IntKind.u64.wrap (a1)) 63)))then(some (Go.bits .or .u64 (shl .u64 a0 (Go.bits .and .u64 (IntKind.u64.wrap (a1)) 63)) (shr .u64 a0 (IntKind.u64.wrap (64-(Go.bits .and .u64 (IntKind.u64.wrap (a1)) 63))))))else(none))else(none)
theorem Qad.calls(a0:Int)(a1:Int)(r:Int)(w:World)(h:Qad.f a0 a1=some r) :
  Calls Tryz.prog 201 #[.int .u64 a0,.int .i64 a1] w fun e w'=>e=.returned (.int .u64 r)∧Drawn0 w w':=by
 have H:(if 0≤(Go.bits .and .u64 (IntKind.u64.wrap (a1)) 63)then(if 0≤(IntKind.u64.wrap (64-(Go.bits .and .u64 (IntKind.u64.wrap (a1)) 63)))then(some (Go.bits .or .u64 (shl .u64 a0 (Go.bits .and .u64 (IntKind.u64.wrap (a1)) 63)) (shr .u64 a0 (IntKind.u64.wrap (64-(Go.bits .and .u64 (IntKind.u64.wrap (a1)) 63))))))else(none))else(none))=some r:=h;clear h;obtain⟨a,j⟩:∃j_:Int,(Go.bits .and .u64 (IntKind.u64.wrap (a1)) 63)=j_:=⟨_,rfl⟩;replace H:(if 0≤(a)then(if 0≤(IntKind.u64.wrap (64-(a)))then(some (Go.bits .or .u64 (shl .u64 a0 (a)) (shr .u64 a0 (IntKind.u64.wrap (64-(a))))))else(none))else(none))=some r:=by first |(rw[j]at H;exact H) |(simp only[j]at H ⊢;exact H)
 by_cases c4:0≤(a)
 ·rw[if_pos c4]at H;have q:=eq_true c4;have s:=decide_eq_true c4;clear c4;obtain⟨g,b⟩:∃j_:Int,(shl .u64 a0 (a))=j_:=⟨_,rfl⟩;replace H:(if 0≤(IntKind.u64.wrap (64-(a)))then(some (Go.bits .or .u64 (g) (shr .u64 a0 (IntKind.u64.wrap (64-(a))))))else(none))=some r:=by first |(rw[b]at H;exact H) |(simp only[b]at H ⊢;exact H)
  have m:(IntKind.u64.wrap (a0*2^min (a).toNat 64))=g:=b;have n:(a)≤64→(IntKind.u64.wrap (a0*2^(a).toNat))=g:=Qjj b;obtain⟨c,k⟩:∃j_:Int,(IntKind.u64.wrap (64-(a)))=j_:=⟨_,rfl⟩;replace H:(if 0≤(c)then(some (Go.bits .or .u64 (g) (shr .u64 a0 (c))))else(none))=some r:=by first |(rw[k]at H;exact H) |(simp only[k]at H ⊢;exact H)
  by_cases c7:0≤(c)
  ·rw[if_pos c7]at H;have t:=eq_true c7;have u:=decide_eq_true c7;clear c7;obtain⟨l,d⟩:∃j_:Int,(shr .u64 a0 (c))=j_:=⟨_,rfl⟩;replace H:(some (Go.bits .or .u64 (g) (l)))=some r:=by first |(rw[d]at H;exact H) |(simp only[d]at H ⊢;exact H)
   have o:(a0/2^min (c).toNat 64)=l:=d;have p:(c)≤64→(a0/2^(c).toNat)=l:=Qjk d;obtain rfl:=Option.some.inj H
   go_enter Tryz.func201,Tryz.ntmps201
   go_wp2;go_ret
   exact⟨by first|rfl |(simp;done) |(simp only[← j,← b,← k,← d]<;>(first|rfl|simp)) |(simp[*];done),by repeat(first|exact Drawn0.refl _|apply Drawn0.step)⟩
  ·rw[if_neg c7]at H;exact absurd H (by simp)
 ·rw[if_neg c4]at H;exact absurd H (by simp)
def Qdg.f(a0:Int)(a1:Int):Option (Int):=(Qad.f (IntKind.u64.wrap (a0+(IntKind.u64.wrap (a1*14029467366897019727)))) 31).bind fun t103=>(some (IntKind.u64.wrap (t103*11400714785074694791)))
theorem Qdg.calls(a0:Int)(a1:Int)(r:Int)(w:World)(h:Qdg.f a0 a1=some r) :
  Calls Tryz.prog 198 #[.int .u64 a0,.int .u64 a1] w fun e w'=>e=.returned (.int .u64 r)∧Drawn0 w w':=by
 have H:((Qad.f (IntKind.u64.wrap (a0+(IntKind.u64.wrap (a1*14029467366897019727)))) 31).bind fun t103=>(some (IntKind.u64.wrap (t103*11400714785074694791))))=some r:=h;clear h;replace H:=Option.bind_eq_some_iff.mp H;obtain⟨t103,A30,H⟩:=H;have A3:=QA A30;clear A30;obtain rfl:=Option.some.inj H
 go_enter Tryz.func198,Tryz.ntmps198
 go_wp2_with (first |((with_reducible refine Qjh (f:=201) rfl ?_);refine Qhf (some 9) rfl rfl Tryz.func201 qq_6 rfl #[.int .u64 (IntKind.u64.wrap (a0+(IntKind.u64.wrap (a1*14029467366897019727)))),.int .i64 31] rfl qq_1 ?_;(with_reducible refine(Qad.calls (IntKind.u64.wrap (a0+(IntKind.u64.wrap (a1*14029467366897019727)))) 31 t103 _ A3.out).mono ?_);rintro e w' ⟨rfl,⟨nd,rfl⟩⟩;refine⟨_,rfl,?_⟩))
 go_ret
 exact⟨by first|rfl |(simp;done) |(simp[*];done),by repeat(first|exact Drawn0.refl _|apply Drawn0.step)⟩
def Qdh.l0:Nat→List Int→Int→Int→Int→Option (Int)
 | 0,_,_,_,_=>none
 | k+1,x0,x5,x7,x8=>if x8<x7 then(if 0≤x8 then(if x8<(x0.length:Int)then(if 0≤(wrap64 (8*x8))then(Qdh.l0 k x0 (Go.bits .or .u64 x5 (shl .u64 (IntKind.u64.wrap (rd x0 x8)) (wrap64 (8*x8)))) x7 (wrap64 (x8+1)))else(none))else(none))else(none))else(some x5)
def Qdh.f(k:Nat)(l0:List Int)(a1:Int):Option (Int):=Qdh.l0 k l0 0 a1 0
theorem Qdh.calls(k:Nat)(A0:Option Addr)(c0:Nat)(l0:List Int)(a1:Int)(r:Int)(w:World)(hr0:Kd.C (Kd.int .u8) w A0 l0.length l0)(hc0:l0.length≤c0)(h:Qdh.f k l0 a1=some r) :
  Calls Tryz.prog 199 #[.slice A0 l0.length c0,.int .i64 a1] w fun e w'=>e=.returned (.int .u64 r)∧Drawn0 w w':=by
 have q:=QA hr0;have B:=QA hc0;clear hr0 hc0;have H:(Qdh.l0 k l0 0 a1 0)=some r:=h;clear h;have H':=QA H;clear H
 go_enter Tryz.func199,Tryz.ntmps199
 go_wp2
 go_loopg [5,8] k (fun kq v5 v8 w'=>∃(b:Int) (a:Int),v5=.int .u64 b∧v8=.int .i64 a∧Aside0 (Qdh.l0 kq l0 b a1 a=some r)∧Aside0 (kq≤k)∧Drawn0 w w')
 case atStart=>exact⟨(0),(0),qq_7,qq_7,H',⟨Nat.le_refl _⟩,by repeat(first|exact Drawn0.refl _|apply Drawn0.step)⟩
 case round =>
  clear H';obtain⟨b,a,rfl,rfl,HA,HK1,⟨m1,rfl⟩⟩:=hrel
  cases gk with
  | zero=>exact absurd HA.out (by simp[Qdh.l0])
  | succ k1 =>
   have H:=HA.out;clear HA;simp only[Qdh.l0]at H
   by_cases c3:a<a1
   ·rw [if_pos c3]at H;have n:=decide_eq_true c3;clear c3
    by_cases c4:0≤a
    ·rw[if_pos c4]at H;have x:=decide_eq_true c4;clear c4
     by_cases c5:a<(l0.length:Int)
     ·rw[if_pos c5]at H;have y:=decide_eq_true c5;clear c5;obtain⟨c,g⟩:∃j_:Int,(wrap64 (8*a))=j_:=⟨_,rfl⟩;replace H:(if 0≤(c)then(Qdh.l0 k1 l0 (Go.bits .or .u64 b (shl .u64 (IntKind.u64.wrap (rd l0 a)) (c))) a1 (wrap64 (a+1)))else(none))=some r:=by first |(rw[g]at H;exact H) |(simp only[g]at H ⊢;exact H)
      have s:(IntKind.i64.wrap (8*a))=c:=(Qhh _).trans g
      by_cases c7:0≤(c)
      ·rw[if_pos c7]at H;have z:=eq_true c7;have A:=decide_eq_true c7;clear c7;obtain⟨m,d⟩:∃j_:Int,(shl .u64 (IntKind.u64.wrap (rd l0 a)) (c))=j_:=⟨_,rfl⟩;replace H:(Qdh.l0 k1 l0 (Go.bits .or .u64 b (m)) a1 (wrap64 (a+1)))=some r:=by first |(rw[d]at H;exact H) |(simp only[d]at H ⊢;exact H)
       have t:(IntKind.u64.wrap ((IntKind.u64.wrap (rd l0 a))*2^min (c).toNat 64))=m:=d;have u:(c)≤64→(IntKind.u64.wrap ((IntKind.u64.wrap (rd l0 a))*2^(c).toNat))=m:=Qjj d;have H':=QA H;clear H;have j:0≤(a:Int):=of_decide_eq_true qq_3;have l:a<(l0.length:Int):=of_decide_eq_true qq_3;obtain⟨v,o,p⟩:=Kd.at_int q.out a j l
       cases o
       replace j:=eq_true j;replace l:=eq_true l;go_wp2
       go_roundg k1
       case measure=>have:=HK1.out;omega
       case rel=>exact⟨(Go.bits .or .u64 b (m)),(wrap64 (a+1)),(by first|rfl |(simp;done) |(simp only[← d]<;>(first|rfl|simp)) |(simp[*];done)),qq_7,H',⟨by have:=HK1.out;omega⟩,by repeat(first|exact Drawn0.refl _|apply Drawn0.step)⟩
      ·rw[if_neg c7]at H;exact absurd H (by simp)
     ·rw[if_neg c5]at H;exact absurd H (by simp)
    ·rw[if_neg c4]at H;exact absurd H (by simp)
   ·rw[if_neg c3]at H;have n:=decide_eq_false c3;clear c3;obtain rfl:=Option.some.inj H;go_wp2;go_ret
    exact⟨by first|rfl |(simp;done) |(simp[*];done),by repeat(first|exact Drawn0.refl _|apply Drawn0.step)⟩
end Go.Proofs.YteaocbonofboeaaGreat.C
end
