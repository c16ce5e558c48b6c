/- Merged texts. -/
import Derived.Test.YtepkfjmjidjedaaGreatProg
import Derived.Below
import Derived.Deep.Draws
import Derived.Deep.AppendLies
import Derived.Maps.AppendAt
import Derived.OwnWalk
import Derived.Laws.BytesArg
import Derived.Laws.MakeOwn
import Derived.Laws.OwnMore
import Derived.Deep.OwnRows
import Derived.Tactics
import Derived.Lib.ConvBytes
import Derived.Laws.Slices
import Derived.WalkKit
import Derived.KernelRfl
import Derived.RowKit3
import Derived.Deep.LoopGhost
import Derived.Deep.QuietTactic
import Derived.BigQuiet
import Derived.WideLaws
import Derived.Deep.DeepCutAuto
import Derived.Deep.CutBlock
import Derived.Deep.RegionHeld3
import Derived.Laws.Rows
import Derived.Lib.AppendStr
import Derived.ArgAppend
import Derived.Laws.IdiomCopy
import Derived.OrdersHeld
import Derived.Laws.BitsLemmas
import Derived.RowKit
import Derived.Test.YtepkfjmjidjedaaGreatMA00
import Derived.Test.YtepkfjmjidjedaaGreatMA01
set_option linter.unusedVariables false
set_option linter.unusedSimpArgs false
set_option maxHeartbeats 8000000
set_option maxRecDepth 100000
section
namespace Go.Proofs.YtepkfjmjidjedaaGreat.C
open Go.RowKit Go.Proofs.YtepkfjmjidjedaaGreatW.PrintWords Go.Proofs.YtepkfjmjidjedaaGreatW.PrintLast Go.Proofs.YtepkfjmjidjedaaGreatW.PrintMore
attribute [local go_sem] Qho Qhp Qhq Qhr Qhs Qht Qhu Qhv
def errW:Option Int→Value
 | none=>.nilIface
 | some c=>.iface 0 (.int .i64 c)
theorem Qib:errW none=.nilIface:=rfl
theorem Qic(c:Int):errW (some c)=.iface 0 (.int .i64 c):=rfl
theorem info3:(Tryz.prog.info? 3).map (fun i=>(i.zero,i.size,i.bytes))=some (some (.int .i64 0),1,8):=by kernel_rfl
theorem Qid:(Tryz.prog.info? 5).map (fun i=>(i.zero,i.size,i.bytes))=some (some (.int .u8 0),1,1):=by kernel_rfl
theorem Qie:(Tryz.prog.info? 32).map (fun i=>(i.zero,i.size,i.bytes))=some (some (.int .u64 0),1,8):=by kernel_rfl
theorem Qif:(Tryz.prog.info? 36).map (fun i=>(i.zero,i.size,i.bytes))=some (some (.agg #[(.bool false),(.int .u64 0),(.string ⟨#[]⟩),(.string ⟨#[]⟩)]),4,48):=by kernel_rfl
theorem Qig:(Tryz.prog.info? 38).map (fun i=>(i.zero,i.size,i.bytes))=some (some (.int .u32 0),1,4):=by kernel_rfl
structure S36 where
  f0:Bool
  f1:Int
  f2:ByteArray
  f3:ByteArray
def z36:S36:=⟨false,(0:Int),(⟨#[]⟩:ByteArray),(⟨#[]⟩:ByteArray)⟩
def k36:Kd S36:=Kd.iso (Kd.pair Kd.bool (Kd.pair (Kd.int .u64) (Kd.pair Kd.string Kd.string))) (fun x:S36=>(x.f0,x.f1,x.f2,x.f3))
theorem Qih{w:World}{x:S36}{cs:List Value}(h:k36.K w x cs):cs=[.bool x.f0,.int .u64 x.f1,.string x.f2,.string x.f3]:=by
 obtain⟨_,_,rfl,rfl,⟨_,_,rfl,rfl,⟨_,_,rfl,rfl,rfl⟩⟩⟩:=h
 exact rfl
theorem Qii(w:World)(base:Nat)(ok:Nat→Prop)(x:S36)  : k36.M w base ok x [.bool x.f0,.int .u64 x.f1,.string x.f2,.string x.f3]:=⟨[.bool x.f0],[.int .u64 x.f1,.string x.f2,.string x.f3],rfl,rfl,⟨[.int .u64 x.f1],[.string x.f2,.string x.f3],rfl,rfl,⟨[.string x.f2],[.string x.f3],rfl,rfl,rfl⟩⟩⟩
def Qij(xs:List S36)(i:Int):S36:=xs.getD i.toNat z36
theorem Qik{w:World}{A:Option Addr}{n:Nat}{xs:List S36}(h:Kd.C k36 w A n xs)(i:Int)(h0:0≤i)(h1:i<n):∃ad , A=some ad∧w.cell? (ad.add (i.toNat*4))=some (.bool (Qij xs i).f0)∧w.cell? ⟨(ad.add (i.toNat*4)).block,(ad.add (i.toNat*4)).off+1,none⟩=some (.int .u64 (Qij xs i).f1)∧w.cell? ⟨(ad.add (i.toNat*4)).block,(ad.add (i.toNat*4)).off+2,none⟩=some (.string (Qij xs i).f2)∧w.cell? ⟨(ad.add (i.toNat*4)).block,(ad.add (i.toNat*4)).off+3,none⟩=some (.string (Qij xs i).f3):=by
 obtain⟨ad,c,e,_,hK,hc0⟩:=Kd.C_get h z36 i h0 h1
 have hc:∀j u,c[j]? = some u→w.cell? (ad.add (i.toNat*4+j))=some u:=hc0
 obtain rfl:=Qih hK
 exact⟨ad,e,hc 0 _ rfl,by rw[← Qda _ _ 1 (by omega)];exact hc 1 _ rfl,by rw[← Qda _ _ 2 (by omega)];exact hc 2 _ rfl,by rw[← Qda _ _ 3 (by omega)];exact hc 3 _ rfl⟩
structure S40 where
  f0:Int
  f1:Int
structure S177 where
  f0:Int
  f1:Int
def z177:S177:=⟨(0:Int),(0:Int)⟩
def k177:Kd S177:=Kd.iso (Kd.pair (Kd.int .u64) (Kd.int .u32)) (fun x:S177=>(x.f0,x.f1))
theorem Qil{w:World}{x:S177}{cs:List Value}(h:k177.K w x cs):cs=[.int .u64 x.f0,.int .u32 x.f1]:=by
 obtain⟨_,_,rfl,rfl,rfl⟩:=h
 exact rfl
theorem Qim{w:World}{base:Nat}{ok:Nat→Prop}{x:S177}{cs:List Value}(h:k177.M w base ok x cs):cs=[.int .u64 x.f0,.int .u32 x.f1]:=by
 obtain⟨_,_,rfl,rfl,rfl⟩:=h
 exact rfl
theorem Qin(w:World)(base:Nat)(ok:Nat→Prop)(x:S177)  : k177.M w base ok x [.int .u64 x.f0,.int .u32 x.f1]:=⟨[.int .u64 x.f0],[.int .u32 x.f1],rfl,rfl,rfl⟩
def Qio(xs:List S177)(i:Int):S177:=xs.getD i.toNat z177
theorem Qip{w:World}{A:Option Addr}{n:Nat}{xs:List S177}(h:Kd.C k177 w A n xs)(i:Int)(h0:0≤i)(h1:i<n):∃ad , A=some ad∧w.cell? (ad.add (i.toNat*2))=some (.int .u64 (Qio xs i).f0)∧w.cell? ⟨(ad.add (i.toNat*2)).block,(ad.add (i.toNat*2)).off+1,none⟩=some (.int .u32 (Qio xs i).f1):=by
 obtain⟨ad,c,e,_,hK,hc0⟩:=Kd.C_get h z177 i h0 h1
 have hc:∀j u,c[j]? = some u→w.cell? (ad.add (i.toNat*2+j))=some u:=hc0
 obtain rfl:=Qil hK
 exact⟨ad,e,hc 0 _ rfl,by rw[← Qda _ _ 1 (by omega)];exact hc 1 _ rfl⟩
structure S132 where
  f0:ByteArray
  f1:ByteArray
structure S65 where
  f0:Int
  f1:Int
  f2:Int
structure S139 where
  f0:(List S36)
  f1:(List Int)
  f2:Int
  f3:Bool
structure S93 where
  f0:S36
  f1:Int
  f2:Int
  f3:Int
structure S259 where
  f0:Int
  f1:Int
  f2:Int
structure S84 where
  f0:Int
  f1:Int
structure S94 where
  f0:S36
  f1:Int
  f2:Int
  f3:Int
structure S46 where
  f0:Int
  f1:Int
def z46:S46:=⟨(0:Int),(0:Int)⟩
structure S228 where
  f0:Int
  f1:Int
theorem qq_x{W:World}{g:Nat}{t:TypeId}{cs cs':Array Value}(h:W.heap[g]? = some (.cells cs' t (0,0)):=by((with_reducible repeat(first|apply Qdr|apply Qdq|apply Qdp|apply Qdc));exact Aside0.out (by assumption)))(e:cs'=cs:=by rfl):W.heap[g]? = some (.cells cs t (0,0)):=e ▸ h
theorem qc2{W:World}{g:Nat}{t:TypeId}{v0 v1:Value}(h:W.heap[g]? = some (.cells #[v0,v1] t (0,0))):W.cell? ⟨g,0,none⟩=some v0∧W.cell? ⟨g,1,none⟩=some v1:=⟨(Qdf h 0).trans rfl,(Qdf h 1).trans rfl⟩
theorem qc3{W:World}{g:Nat}{t:TypeId}{v0 v1 v2:Value}(h:W.heap[g]? = some (.cells #[v0,v1,v2] t (0,0))):W.cell? ⟨g,0,none⟩=some v0∧W.cell? ⟨g,1,none⟩=some v1∧W.cell? ⟨g,2,none⟩=some v2:=⟨(Qdf h 0).trans rfl,(Qdf h 1).trans rfl,(Qdf h 2).trans rfl⟩
theorem qc4{W:World}{g:Nat}{t:TypeId}{v0 v1 v2 v3:Value}(h:W.heap[g]? = some (.cells #[v0,v1,v2,v3] t (0,0))):W.cell? ⟨g,0,none⟩=some v0∧W.cell? ⟨g,1,none⟩=some v1∧W.cell? ⟨g,2,none⟩=some v2∧W.cell? ⟨g,3,none⟩=some v3:=⟨(Qdf h 0).trans rfl,(Qdf h 1).trans rfl,(Qdf h 2).trans rfl,(Qdf h 3).trans rfl⟩
theorem qc5{W:World}{g:Nat}{t:TypeId}{v0 v1 v2 v3 v4:Value}(h:W.heap[g]? = some (.cells #[v0,v1,v2,v3,v4] t (0,0))):W.cell? ⟨g,0,none⟩=some v0∧W.cell? ⟨g,1,none⟩=some v1∧W.cell? ⟨g,2,none⟩=some v2∧W.cell? ⟨g,3,none⟩=some v3∧W.cell? ⟨g,4,none⟩=some v4:=⟨(Qdf h 0).trans rfl,(Qdf h 1).trans rfl,(Qdf h 2).trans rfl,(Qdf h 3).trans rfl,(Qdf h 4).trans rfl⟩
theorem qq_b{b:Nat}{w w':World}(h:Below b w w':=by repeat(first |(with_reducible first|exact HB.out|apply Qci|apply Qck|apply Qez|refine Qeu ?_ (Aside0.out (by assumption)))|exact HB.out)):Below b w w':=h
theorem qq_h{w w':World}(hb:Below w.heap.size w w'){p:Addr}{v:Value}(h:w.cell? p=some v):w'.cell? p=some v:=(hb.cell (World.block_lt_of_cell? w _ h)).trans h
theorem qq_s{w W:World}{g:Nat}(hg:g=W.heap.size)(h:Below w.heap.size w W:=by exact qq_b):w.heap.size≤g:=hg ▸ Qer h
theorem qq_e{P:Program}{ops:Array Oper}{o:Oper}{rest:List Oper}{a:Act}{Q:Exit→Act→World→Prop}{W:World}(N:Tmp)(cs:Array Value)(t:TypeId)(h:∀g,g=W.heap.size→∀w1,w1.heap[g]? = some (.cells cs t (0,0))→Below W.heap.size W w1→wpList P ops Q rest (a.put o.dst (.pointer (some ⟨g,0,none⟩))) w1)(hgd:o.guard=none:=by rfl)(hd:o.dst=some N:=by rfl)(hrun:(execOp a.eval o).run P W=.ok (.value (.pointer (some ⟨W.heap.size,0,none⟩))) (W.alloc (.cells cs t (0,0))):=by first |(go_simp;done) |(go_simp;rfl)):wpList P ops Q (o :: rest) a W:=Qfb hgd hd hrun h
theorem qq_0{p:Prop}(h:p:=by(with_reducible repeat(first|apply Qdr|apply Qdq|apply Qdp));exact Aside0.out (by assumption)):p:=h
theorem qq_1{p:Prop}(h:p:=by(try simp only[List.map_toArray,List.map_cons,List.map_nil]);first|done|rfl |(simp only[List.length_drop,List.length_take];rfl)):p:=h
theorem qq_2{p:Prop}(h:p:=by first |(rw[Qew];assumption) |(show(Addr.add _ _).block≠_;rw[Qew];assumption)|assumption):p:=h
theorem qq_3{p:Prop}(h:p:=by first |(with_reducible assumption)|assumption):p:=h
theorem qq_4{p:Prop}(h:p:=by first|rfl |(simp[Qib,Qic]<;>rfl) |(simp[*,Qib,Qic]<;>rfl)):p:=h
theorem qq_5{p:Prop}(h:p:=by kernel_rfl):p:=h
theorem qq_6{p:Prop}(h:p:=by(repeat(first |(with_reducible first|apply Qdr|apply Qdq|apply Qdp)|refine Qdd ?_ (Aside0.out (by assumption)) _));exact Aside0.out (by assumption)):p:=h
theorem qq_7{p:Prop}(h:p:=by first|rfl |(simp;done) |(simp[*];done)):p:=h
theorem qq_8{p:Prop}(h:p:=by have:=World.block_lt_of_cell? _ _ hx276_0;first|rwa [Qew]at this|exact this):p:=h
theorem qq_9{p:Prop}(h:p:=by(with_reducible repeat(first|apply Kd.R_alloc|apply Kd.R_drewN|apply Kd.R_drew));exact Aside0.out (by assumption)):p:=h
theorem qq_10{p:Prop}(h:p:=by(with_reducible repeat(first|apply Kd.R_alloc|apply Kd.R_drewN|apply Kd.R_drew));exact HO_8.out):p:=h
theorem qq_11{p:Prop}(h:p:=by(with_reducible repeat(first|apply Kd.R_alloc|apply Kd.R_drewN|apply Kd.R_drew));exact Kd.R_mono (Kd.R_far (p:=⟨gb289,3,none⟩) (Kd.R_far (p:=⟨gb289,2,none⟩) (Kd.R_far (p:=⟨gb289,1,none⟩) (Kd.R_far (p:=⟨gb289,0,none⟩) (Kd.R_mono HO_17.out (fun k_ hk=>(⟨hk,hk.2⟩:_∧k_≠gb289))) (fun _ hk=>hk.2) (.bool ((Qij x3_1 x19_2).f0))) (fun _ hk=>hk.2) (.int .u64 ((Qij x3_1 x19_2).f1))) (fun _ hk=>hk.2) (.string ((Qij x3_1 x19_2).f2))) (fun _ hk=>hk.2) (.string ((Qij x3_1 x19_2).f3))) (fun _ hk=>⟨⟨hk.1.1.2.1,⟨hk.1.1.2.2,hk.1.2⟩⟩,hk.1.1.1⟩)):p:=h
theorem qq_12{p:Prop}(h:p:=by(with_reducible repeat(first|apply Kd.R_alloc|apply Kd.R_drewN|apply Kd.R_drew));exact Kd.R_mono (Kd.R_far (p:=⟨gb289,3,none⟩) (Kd.R_far (p:=⟨gb289,2,none⟩) (Kd.R_far (p:=⟨gb289,1,none⟩) (Kd.R_far (p:=⟨gb289,0,none⟩) (Kd.R_mono HO_11.out (fun k_ hk=>(⟨hk,hk.2⟩:_∧k_≠gb289))) (fun _ hk=>hk.2) (.bool ((Qij x3_1 x19_2).f0))) (fun _ hk=>hk.2) (.int .u64 ((Qij x3_1 x19_2).f1))) (fun _ hk=>hk.2) (.string ((Qij x3_1 x19_2).f2))) (fun _ hk=>hk.2) (.string ((Qij x3_1 x19_2).f3))) (fun _ hk=>⟨⟨hk.1.1.2.1,⟨hk.1.1.2.2,hk.1.2⟩⟩,hk.1.1.1⟩)):p:=h
theorem qq_13{p:Prop}(h:p:=by(with_reducible repeat(first|apply Kd.R_alloc|apply Kd.R_drewN|apply Kd.R_drew));exact Kd.R_mono (Kd.R_far (p:=⟨gb289,3,none⟩) (Kd.R_far (p:=⟨gb289,2,none⟩) (Kd.R_far (p:=⟨gb289,1,none⟩) (Kd.R_far (p:=⟨gb289,0,none⟩) (Kd.R_mono HO_6.out (fun k_ hk=>(⟨hk,hk.2⟩:_∧k_≠gb289))) (fun _ hk=>hk.2) (.bool ((Qij x3_1 x19_2).f0))) (fun _ hk=>hk.2) (.int .u64 ((Qij x3_1 x19_2).f1))) (fun _ hk=>hk.2) (.string ((Qij x3_1 x19_2).f2))) (fun _ hk=>hk.2) (.string ((Qij x3_1 x19_2).f3))) (fun _ hk=>⟨hk.1.1.1,⟨hk.1.1.2.1,⟨hk.1.1.2.2,hk.1.2⟩⟩⟩)):p:=h
theorem qq_14{p:Prop}(h:p:=by(with_reducible repeat(first|apply Kd.R_alloc|apply Kd.R_drewN|apply Kd.R_drew));exact(Kd.R_mono (Kd.R_far (p:=⟨gb289,3,none⟩) (Kd.R_far (p:=⟨gb289,2,none⟩) (Kd.R_far (p:=⟨gb289,1,none⟩) (Kd.R_far (p:=⟨gb289,0,none⟩) (Kd.R_mono HO_17.out (fun k_ hk=>(⟨hk,hk.2⟩:_∧k_≠gb289))) (fun _ hk=>hk.2) (.bool ((Qij x3_1 x19_2).f0))) (fun _ hk=>hk.2) (.int .u64 ((Qij x3_1 x19_2).f1))) (fun _ hk=>hk.2) (.string ((Qij x3_1 x19_2).f2))) (fun _ hk=>hk.2) (.string ((Qij x3_1 x19_2).f3))) (fun _ h_=>h_.1))):p:=h
theorem qq_15{p:Prop}(h:p:=by(with_reducible repeat(first|apply Kd.R_alloc|apply Kd.R_drewN|apply Kd.R_drew));exact(Kd.R_mono (Kd.R_far (p:=⟨gb289,3,none⟩) (Kd.R_far (p:=⟨gb289,2,none⟩) (Kd.R_far (p:=⟨gb289,1,none⟩) (Kd.R_far (p:=⟨gb289,0,none⟩) (Kd.R_mono HO_11.out (fun k_ hk=>(⟨hk,hk.2⟩:_∧k_≠gb289))) (fun _ hk=>hk.2) (.bool ((Qij x3_1 x19_2).f0))) (fun _ hk=>hk.2) (.int .u64 ((Qij x3_1 x19_2).f1))) (fun _ hk=>hk.2) (.string ((Qij x3_1 x19_2).f2))) (fun _ hk=>hk.2) (.string ((Qij x3_1 x19_2).f3))) (fun _ h_=>h_.1))):p:=h
theorem qq_16{p:Prop}(h:p:=by(with_reducible repeat(first|apply Kd.R_alloc|apply Kd.R_drewN|apply Kd.R_drew));exact HO_11.out):p:=h
theorem qq_17{p:Prop}(h:p:=by(with_reducible repeat(first|apply Kd.R_alloc|apply Kd.R_drewN|apply Kd.R_drew));exact HO_4.out):p:=h
theorem qq_18{p:Prop}(h:p:=by(with_reducible repeat(first|apply Kd.R_alloc|apply Kd.R_drewN|apply Kd.R_drew));exact HO_17.out):p:=h
theorem qq_19{p:Prop}(h:p:=by(with_reducible repeat(first|apply Kd.R_alloc|apply Kd.R_drewN|apply Kd.R_drew));exact HO428.out):p:=h
theorem qq_20{p:Prop}(h:p:=by(with_reducible repeat(first|apply Kd.V_alloc|apply Kd.V_drewN|apply Kd.V_drew));exact HO_5.out):p:=h
theorem qq_21{p:Prop}(h:p:=by(with_reducible repeat(first|apply Kd.V_alloc|apply Kd.V_drewN|apply Kd.V_drew));exact HO_0.out):p:=h
theorem qq_22{p:Prop}(h:p:=by have:=HN.out;omega):p:=h
theorem qq_23{p:Prop}(h:p:=by first |(go_simp;done) |(go_simp;rfl)):p:=h
theorem qq_24{p:Prop}(h:p:=by(with_reducible repeat(first|apply Kd.R_alloc|apply Kd.R_drewN|apply Kd.R_drew));exact Kd.R_mono HO425.out (fun _ hk=>hk.2)):p:=h
theorem qq_25{p:Prop}(h:p:=by(with_reducible repeat(first|apply Kd.R_alloc|apply Kd.R_drewN|apply Kd.R_drew));exact Kd.R_mono HO_8.out (fun _ hk=>hk.2)):p:=h
theorem qq_26{p:Prop}(h:p:=by(try simp only[List.map_toArray,List.map_cons,List.map_nil]);first|done |(simp only[hji2];rfl)|rfl |(simp only[List.length_drop,List.length_take];rfl)):p:=h
theorem qq_27{p:Prop}(h:p:=by simp;omega):p:=h
theorem qq_28{p:Prop}(h:p:=by(with_reducible repeat(first|apply Kd.V_alloc|apply Kd.V_drewN|apply Kd.V_drew));exact HO363.out):p:=h
theorem qq_29{p:Prop}(h:p:=by(with_reducible repeat(first|apply Kd.R_alloc|apply Kd.R_drewN|apply Kd.R_drew));exact HO_6.out):p:=h
theorem qq_30{p:Prop}(h:p:=by(with_reducible repeat(first|apply Kd.R_alloc|apply Kd.R_drewN|apply Kd.R_drew));exact HO_5.out):p:=h
theorem qq_31{p:Prop}(h:p:=by rw[List.length_drop];omega):p:=h
theorem qq_32{p:Prop}(h:p:=by simp only[Qfv,Act.put,List.setIfInBounds_toArray,List.set_cons_zero,List.set_cons_succ]):p:=h
theorem qq_33{p:Prop}(h:p:=by(try simp only[List.map_toArray,List.map_cons,List.map_nil]);first|done |(rw[show((l1.take ((wrap64 (((x32_1+1)%4294967296)*t421)):Int).toNat).drop ((ji12):Int).toNat).length=((wrap64 (((x32_1+1)%4294967296)*t421)).toNat-(ji12).toNat) from(by rw[List.length_drop,List.length_take];have h_:((wrap64 (((x32_1+1)%4294967296)*t421)):Int)≤(l1.length:Int):=of_decide_eq_true qq_3;omega)]<;>rfl) |(simp only[hji12];rfl)|rfl |(simp only[List.length_drop,List.length_take];rfl)):p:=h
def Qar.l0:Nat→List (S36)→Int→Int→List (S36)→Int→Int→Option (Bool)
 | 0,_,_,_,_,_,_=>none
 | k+1,x0,x1,x2,x9,x10,x11=>if x11<x10 then(if 0≤x11 then(if x11<(x9.length:Int)then(if(((Qij x9 x11).f2).size:Int) > x2 then(some false)else(if(((Qij x9 x11).f3).size:Int) > x2 then(some false)else(Qar.l0 k x0 x1 x2 x9 x10 (wrap64 (x11+1)))))else(none))else(none))else(some (decide ((x0.length:Int)≤x1)))
def Qar.f(k:Nat)(l0:List (S36))(a1:Int)(a2:Int):Option (Bool):=Qar.l0 k l0 a1 a2 l0 (l0.length:Int) 0
theorem Qar.calls (k:Nat) (A0:Option Addr) (c0:Nat) (l0:List (S36)) (a1:Int) (a2:Int) (r:Bool) (w:World) (hr0:Kd.C k36 w A0 l0.length l0) (hc0:l0.length≤c0) (h:Qar.f k l0 a1 a2=some r) :
  Calls Tryz.prog 11 #[.slice A0 l0.length c0,.int .i64 a1,.int .i64 a2] w fun e w'=>e=.returned (.bool r)∧Below w.heap.size w w':=by
 have hu36:=Tryz.underlying36;have t:=QA hr0;have Z:=QA hc0;clear hr0 hc0;have HB:=QA (Below.refl w.heap.size w);have H:(Qar.l0 k l0 a1 a2 l0 (l0.length:Int) 0)=some r:=h;clear h;have H':=QA H;clear H
 go_enter Tryz.func11,Tryz.ntmps11
 go_wp2
 go_loopg [11] k (fun kq J w'=>∃(a:Int),J=.int .i64 a∧Aside0 (Qar.l0 kq l0 a1 a2 l0 (l0.length:Int) a=some r)∧Aside0 (kq≤k)∧Aside0 (Below w.heap.size w w'))
 case atStart=>exact⟨(0),qq_7,H',⟨Nat.le_refl _⟩,⟨qq_b⟩⟩
 case round =>
  clear H';obtain⟨a,rfl,HA,HK1,HB⟩:=hrel
  cases gk with
  | zero=>exact absurd HA.out (by simp[Qar.l0])
  | succ k1 =>
   have H:=HA.out;clear HA;simp only[Qar.l0]at H
   by_cases c4:a<(l0.length:Int)
   ·rw [if_pos c4]at H;have v:=decide_eq_true c4;clear c4
    by_cases c5:0≤a
    ·rw [if_pos c5]at H;have W:=decide_eq_true c5;clear c5
     by_cases c6:a<(l0.length:Int)
     ·rw[if_pos c6]at H;have X:=decide_eq_true c6;clear c6
      by_cases c7:(((Qij l0 a).f2).size:Int) > a2
      ·rw[if_pos c7]at H;have x:decide (a2<(((Qij l0 a).f2).size:Int))=true:=decide_eq_true c7;clear c7;obtain rfl:=Option.some.inj H;have j:0≤(a:Int):=of_decide_eq_true qq_3;have l:a<(l0.length:Int):=of_decide_eq_true qq_3;obtain⟨p,o,b,c,d,g⟩:=Qik t.out a j l
       cases o
       replace b:=qq_h HB.out b;replace c:=qq_h HB.out c;replace d:=qq_h HB.out d;replace g:=qq_h HB.out g;replace j:=eq_true j;replace l:=eq_true l
       go_wp2_with (first |((with_reducible refine Qfc (N:=8) rfl ?_);(try(refine Qhn (by rfl) ?_;dsimp only));refine qq_e 8 #[.bool false,.int .u64 0,.string (⟨#[]⟩:ByteArray),.string (⟨#[]⟩:ByteArray)] 36 ?_;intro m hg w8 hbox hb;have n_:=qn4 (Qes qq_b hb) (hbox) (qq_s hg:w.heap.size≤m) (qq_s hg:w.heap.size≤m);clear HB;obtain⟨HB,n,q,s⟩:=n_;clear hb hbox hg;obtain⟨L,M,O,P⟩:=qc4 n.out;have Y:=Qdg n.out))
       go_ret
       exact⟨qq_4,qq_b⟩
      ·rw[if_neg c7]at H;have x:decide (a2<(((Qij l0 a).f2).size:Int))=false:=decide_eq_false c7;clear c7
       by_cases c10:(((Qij l0 a).f3).size:Int) > a2
       ·rw[if_pos c10]at H;have u:decide (a2<(((Qij l0 a).f3).size:Int))=true:=decide_eq_true c10;clear c10;obtain rfl:=Option.some.inj H;have j:0≤(a:Int):=of_decide_eq_true qq_3;have l:a<(l0.length:Int):=of_decide_eq_true qq_3;obtain⟨p,o,b,c,d,g⟩:=Qik t.out a j l
        cases o
        replace b:=qq_h HB.out b;replace c:=qq_h HB.out c;replace d:=qq_h HB.out d;replace g:=qq_h HB.out g;replace j:=eq_true j;replace l:=eq_true l
        go_wp2_with (first |((with_reducible refine Qfc (N:=8) rfl ?_);(try(refine Qhn (by rfl) ?_;dsimp only));refine qq_e 8 #[.bool false,.int .u64 0,.string (⟨#[]⟩:ByteArray),.string (⟨#[]⟩:ByteArray)] 36 ?_;intro m hg aa hbox hb;have n_:=qn4 (Qes qq_b hb) (hbox) (qq_s hg:w.heap.size≤m) (qq_s hg:w.heap.size≤m);clear HB;obtain⟨HB,n,q,s⟩:=n_;clear hb hbox hg;obtain⟨y,z,A,B⟩:=qc4 n.out;have T:=Qdg n.out))
        go_ret
        exact⟨qq_4,qq_b⟩
       ·rw[if_neg c10]at H;have u:decide (a2<(((Qij l0 a).f3).size:Int))=false:=decide_eq_false c10;clear c10;have H':=QA H;clear H;have j:0≤(a:Int):=of_decide_eq_true qq_3;have l:a<(l0.length:Int):=of_decide_eq_true qq_3;obtain⟨p,o,b,c,d,g⟩:=Qik t.out a j l
        cases o
        replace b:=qq_h HB.out b;replace c:=qq_h HB.out c;replace d:=qq_h HB.out d;replace g:=qq_h HB.out g;replace j:=eq_true j;replace l:=eq_true l
        go_wp2_with (first |((with_reducible refine Qfc (N:=8) rfl ?_);(try(refine Qhn (by rfl) ?_;dsimp only));refine qq_e 8 #[.bool false,.int .u64 0,.string (⟨#[]⟩:ByteArray),.string (⟨#[]⟩:ByteArray)] 36 ?_;intro m hg ab hbox hb;have n_:=qn4 (Qes qq_b hb) (hbox) (qq_s hg:w.heap.size≤m) (qq_s hg:w.heap.size≤m);clear HB;obtain⟨HB,n,q,s⟩:=n_;clear hb hbox hg;obtain⟨D,E,G,I⟩:=qc4 n.out;have U:=Qdg n.out))
        go_roundg k1
        case measure=>have:=HK1.out;omega
        case rel=>exact⟨(wrap64 (a+1)),qq_7,H',⟨by have:=HK1.out;omega⟩,⟨qq_b⟩⟩
     ·rw[if_neg c6]at H;exact absurd H (by simp)
    ·rw[if_neg c5]at H;exact absurd H (by simp)
   ·rw[if_neg c4]at H;have v:=decide_eq_false c4;clear c4;obtain rfl:=Option.some.inj H;go_wp2;go_ret
    exact⟨qq_4,qq_b⟩
theorem eqA65(d:Nat)(w:World)(x0 y0:Int)(x1 y1:Int)(x2 y2:Int) :
  (Op.equalIn (d+2) 65 (.agg #[.int .i64 x0,.int .i64 x1,.int .i64 x2]) (.agg #[.int .i64 y0,.int .i64 y1,.int .i64 y2])).run Tryz.prog w=.ok (x0 == y0 && (x1 == y1 && (x2 == y2))) w:=by
 refine Qhm Tryz.underlying65 qq_5 ?_;refine Qhl (by rfl) (by go_simp;rfl) (by go_simp;rfl) (by go_simp) ?_;refine Qhl (by rfl) (by go_simp;rfl) (by go_simp;rfl) (by go_simp) ?_;exact Qhk (by rfl) (by go_simp;rfl) (by go_simp;rfl) (by go_simp)
def Qbx.j0:Nat→Bool→Bool→Int→ByteArray→ByteArray→Option (Int)
 | 0,_,_,_,_,_=>none
 | k+1,x12,x105000,x105001,x105002,x105003=>if x12=true then(some 4)else(if(x105003.size:Int) > 1048576 then(some 3)else(some 0))
def Qbx.f(k:Nat)(a0_0:Bool)(a0_1:Int)(a0_2:ByteArray)(a0_3:ByteArray):Option (Int):=if a0_2.toList=([]:List UInt8)then(some 4)else(if(a0_2.size:Int) > 4096 then(some 3)else(if a0_0=true then(Qbx.j0 k (a0_3.toList != ([]:List UInt8)) a0_0 a0_1 a0_2 a0_3)else(Qbx.j0 k false a0_0 a0_1 a0_2 a0_3)))
theorem Qbx.mono_l:∀k,(∀y0 y1 y2 y3 y4,LeO (Qbx.j0 k y0 y1 y2 y3 y4) (Qbx.j0 (k+1) y0 y1 y2 y3 y4))
 | 0=>fun _ _ _ _ _ r h=>by simp[Qbx.j0]at h
 | k+1=>by
  have ih0:=Qbx.mono_l k
  ·intro y0 y1 y2 y3 y4;unfold Qbx.j0
   repeat' first
   |(with_reducible exact ih0 _ _ _ _ _)
   |(with_reducible exact LeO.refl _)
   |(with_reducible exact LeO.none _)
   |(with_reducible refine LeO.ite ?_ ?_)
   |(with_reducible refine LeO.bind ?_ (fun _=>?_))
   | exact ih0 _ _ _ _ _
   | exact LeO.none _
   | refine LeO.ite ?_ ?_
   | refine LeO.bind ?_ (fun _=>?_)
theorem Qbx.mono:∀a0 a1 a2 a3 k,LeO (Qbx.f k a0 a1 a2 a3) (Qbx.f (k+1) a0 a1 a2 a3):=by
 intro a0 a1 a2 a3 k;have ih0:=Qbx.mono_l k;unfold Qbx.f
 repeat' first
   |(with_reducible exact ih0 _ _ _ _ _)
   |(with_reducible exact LeO.refl _)
   |(with_reducible exact LeO.none _)
   |(with_reducible refine LeO.ite ?_ ?_)
   |(with_reducible refine LeO.bind ?_ (fun _=>?_))
   | exact ih0 _ _ _ _ _
   | exact LeO.none _
   | refine LeO.ite ?_ ?_
   | refine LeO.bind ?_ (fun _=>?_)
theorem Qbx.calls(k:Nat)(g:Bool)(j:Int)(b:ByteArray)(c:ByteArray)(r:Int)(w:World)(h:Qbx.f k g j b c=some r) :
  Calls Tryz.prog 91 #[.agg #[.bool g,.int .u64 j,.string b,.string c]] w fun e w'=>e=.returned (.int .i64 r)∧Below w.heap.size w w':=by
 have hu36:=Tryz.underlying36;have HB:=QA (Below.refl w.heap.size w);have H:(if b.toList=([]:List UInt8)then(some 4)else(if(b.size:Int) > 4096 then(some 3)else(if g=true then(Qbx.j0 k (c.toList != ([]:List UInt8)) g j b c)else(Qbx.j0 k false g j b c))))=some r:=h;clear h
 by_cases c2:b.toList=([]:List UInt8)
 ·rw[if_pos c2]at H;have I:(b.toList == ([]:List UInt8))=true:=beq_iff_eq.mpr c2;have J:(b.toList != ([]:List UInt8))=false:=bne_eq_false_iff_eq.mpr c2;clear c2;obtain rfl:=Option.some.inj H
  go_enter Tryz.func91,Tryz.ntmps91
  go_wp2_with (first |((with_reducible refine Qfc (N:=1) rfl ?_);refine qq_e 1 #[.bool g,.int .u64 j,.string b,.string c] 36 ?_;intro d hg w3 hbox hb;have n_:=qn4 (Qes qq_b hb) (hbox) (qq_s hg:w.heap.size≤d) (qq_s hg:w.heap.size≤d);clear HB;obtain⟨HB,a,o,p⟩:=n_;clear hb hbox hg;obtain⟨L,M,O,P⟩:=qc4 a.out;have ag:=Qdg a.out))
  go_ret
  exact⟨qq_4,qq_b⟩
 ·rw [if_neg c2]at H;have I:(b.toList == ([]:List UInt8))=false:=beq_eq_false_iff_ne.mpr c2;have J:(b.toList != ([]:List UInt8))=true:=bne_iff_ne.mpr c2
  by_cases c5:(b.size:Int) > 4096
  ·rw[if_pos c5]at H;have T:decide (4096<(b.size:Int))=true:=decide_eq_true c5;have U:decide (4096<b.size)=true:=decide_eq_true (by omega);clear c5;obtain rfl:=Option.some.inj H
   go_enter Tryz.func91,Tryz.ntmps91
   go_wp2_with (first |((with_reducible refine Qfc (N:=1) rfl ?_);refine qq_e 1 #[.bool g,.int .u64 j,.string b,.string c] 36 ?_;intro d hg w6 hbox hb;have n_:=qn4 (Qes qq_b hb) (hbox) (qq_s hg:w.heap.size≤d) (qq_s hg:w.heap.size≤d);clear HB;obtain⟨HB,a,o,p⟩:=n_;clear hb hbox hg;obtain⟨W,X,Y,Z⟩:=qc4 a.out;have ah:=Qdg a.out))
   go_ret
   exact⟨qq_4,qq_b⟩
  ·rw [if_neg c5]at H;have T:decide (4096<(b.size:Int))=false:=decide_eq_false c5;have U:decide (4096<b.size)=false:=decide_eq_false (by omega);clear c5;have aa:=QA H;clear H
   go_enter Tryz.func91,Tryz.ntmps91
   go_upto_region 5 with(first |((with_reducible refine Qfc (N:=1) rfl ?_);refine qq_e 1 #[.bool g,.int .u64 j,.string b,.string c] 36 ?_;intro d hg w9 hbox hb;have n_:=qn4 (Qes qq_b hb) (hbox) (qq_s hg:w.heap.size≤d) (qq_s hg:w.heap.size≤d);clear HB;obtain⟨HB,a,o,p⟩:=n_;clear hb hbox hg;obtain⟨s,t,u,v⟩:=qc4 a.out;have ab:=Qdg a.out))
   (try simp only[Act.put,List.setIfInBounds_toArray,List.set_cons_zero,List.set_cons_succ])
   go_cut [12] (fun aq wc=>∃(kq:Nat) (l:Bool),aq=.bool l∧Aside0 (Qbx.j0 kq l g j b c=some r)∧Aside0 (kq≤k)∧Aside0 (wc.heap[d]? = some (.cells #[.bool g,.int .u64 j,.string b,.string c] 36 (0,0)))∧Aside0 (Below w.heap.size w wc))
   case first =>
    have H:=aa.out;clear aa
    by_cases n:g=true
    ·subst n;rw[if_pos rfl]at H;have H':=QA H;clear H;obtain⟨x,y,z,A⟩:=qc4 a.out;have ac:=Qdg a.out;go_wp2
     go_meet
     case rel=>exact⟨_,((c.toList != ([]:List UInt8))),(by first|rfl |(simp;done) |(simp[*];done) |(cases c.toList<;>rfl)),H',⟨by first|omega|exact Nat.le_refl _⟩,⟨by(with_reducible repeat(first|apply Qdr|apply Qdq|apply Qdp));exact a.out⟩,⟨qq_b⟩⟩
    ·replace n:=Bool.eq_false_iff.mpr n;subst n;rw[if_neg (show ¬(false=true)by decide)]at H;have H':=QA H;clear H;obtain⟨B,D,E,G⟩:=qc4 a.out;have ad:=Qdg a.out;go_wp2
     go_meet
     case rel=>exact⟨_,(false),(by first|rfl |(simp;done) |(simp[*];done) |(cases c.toList<;>rfl)),H',⟨by first|omega|exact Nat.le_refl _⟩,⟨by(with_reducible repeat(first|apply Qdr|apply Qdq|apply Qdp));exact a.out⟩,⟨qq_b⟩⟩
   case rest =>
    clear aa
    try clear c2
    try clear I
    try clear J
    try clear c5
    try clear T
    try clear U
    try clear n
    try clear s
    try clear t
    try clear u
    try clear v
    try clear x
    try clear y
    try clear z
    try clear A
    try clear B
    try clear D
    try clear E
    try clear G
    try clear L
    try clear M
    try clear O
    try clear P
    try clear W
    try clear X
    try clear Y
    try clear Z
    try clear ab
    try clear ac
    try clear ad
    try clear ag
    try clear ah
    obtain⟨kq,l,rfl,HA,HJ7,a,HB⟩:=hcut
    cases kq with
    | zero=>exact absurd HA.out (by simp[Qbx.j0])
    | succ kj7 =>
     have H:=HA.out;clear HA;simp only[Qbx.j0]at H
     by_cases q:l=true
     ·subst q;rw[if_pos rfl]at H;obtain rfl:=Option.some.inj H;go_wp2;go_ret
      exact⟨qq_4,qq_b⟩
     ·replace q:=Bool.eq_false_iff.mpr q;subst q;rw[if_neg (show ¬(false=true)by decide)]at H
      by_cases m:(c.size:Int) > 1048576
      ·rw[if_pos m]at H;have ae:decide (1048576<(c.size:Int))=true:=decide_eq_true m;have af:decide (1048576<c.size)=true:=decide_eq_true (by omega);clear m;obtain rfl:=Option.some.inj H;obtain⟨ai,aj,ak,al⟩:=qc4 a.out;have ar:=Qdg a.out;go_wp2;go_ret
       exact⟨qq_4,qq_b⟩
      ·rw[if_neg m]at H;have ae:decide (1048576<(c.size:Int))=false:=decide_eq_false m;have af:decide (1048576<c.size)=false:=decide_eq_false (by omega);clear m;obtain rfl:=Option.some.inj H;obtain⟨am,an,ao,ap⟩:=qc4 a.out;have au:=Qdg a.out;go_wp2;go_ret
       exact⟨qq_4,qq_b⟩
def Qal.f(a0:Int):Option (Int):=if a0≤0 then(some 1)else(some (wrap64 ((wrap64 (a0+1))+(wrap64 (Int.tdiv (wrap64 (a0-1)) 254)))))
theorem Qal.calls(a0:Int)(r:Int)(w:World)(h:Qal.f a0=some r) :
  Calls Tryz.prog 246 #[.int .i64 a0] w fun e w'=>e=.returned (.int .i64 r)∧Drawn0 w w':=by
 have H:(if a0≤0 then(some 1)else(some (wrap64 ((wrap64 (a0+1))+(wrap64 (Int.tdiv (wrap64 (a0-1)) 254))))))=some r:=h;clear h
 by_cases c2:a0≤0
 ·rw[if_pos c2]at H;have c2b0:=decide_eq_true c2;clear c2;obtain rfl:=Option.some.inj H
  go_enter Tryz.func246,Tryz.ntmps246
  go_wp2;go_ret
  exact⟨by first|rfl |(simp;done) |(simp[*];done),by repeat(first|exact Drawn0.refl _|apply Drawn0.step)⟩
 ·rw[if_neg c2]at H;have c2b0:=decide_eq_false c2;clear c2;obtain rfl:=Option.some.inj H
  go_enter Tryz.func246,Tryz.ntmps246
  go_wp2;go_ret
  exact⟨by first|rfl |(simp;done) |(simp[*];done),by repeat(first|exact Drawn0.refl _|apply Drawn0.step)⟩
def Qac.f(a0:Int)(a1:Int):Option (Int):=if 0≤(Go.bits .and .u64 (IntKind.u64.wrap (a1)) 63)then(if 0≤(IntKind.u64.wrap (64-(Go.bits .and .u64 (IntKind.u64.wrap (a1)) 63)))then(some (Go.bits .or .u64 (shl .u64 a0 (Go.bits .and .u64 (IntKind.u64.wrap (a1)) 63)) (shr .u64 a0 (IntKind.u64.wrap (64-(Go.bits .and .u64 (IntKind.u64.wrap (a1)) 63))))))else(none))else(none)
theorem Qac.calls(a0:Int)(a1:Int)(r:Int)(w:World)(h:Qac.f a0 a1=some r) :
  Calls Tryz.prog 266 #[.int .u64 a0,.int .i64 a1] w fun e w'=>e=.returned (.int .u64 r)∧Drawn0 w w':=by
 have H:(if 0≤(Go.bits .and .u64 (IntKind.u64.wrap (a1)) 63)then(if 0≤(IntKind.u64.wrap (64-(Go.bits .and .u64 (IntKind.u64.wrap (a1)) 63)))then(some (Go.bits .or .u64 (shl .u64 a0 (Go.bits .and .u64 (IntKind.u64.wrap (a1)) 63)) (shr .u64 a0 (IntKind.u64.wrap (64-(Go.bits .and .u64 (IntKind.u64.wrap (a1)) 63))))))else(none))else(none))=some r:=h;clear h;obtain⟨a,j⟩:∃j_:Int,(Go.bits .and .u64 (IntKind.u64.wrap (a1)) 63)=j_:=⟨_,rfl⟩;replace H:(if 0≤(a)then(if 0≤(IntKind.u64.wrap (64-(a)))then(some (Go.bits .or .u64 (shl .u64 a0 (a)) (shr .u64 a0 (IntKind.u64.wrap (64-(a))))))else(none))else(none))=some r:=by first |(rw[j]at H;exact H) |(simp only[j]at H ⊢;exact H)
 by_cases c4:0≤(a)
 ·rw[if_pos c4]at H;have q:=eq_true c4;have s:=decide_eq_true c4;clear c4;obtain⟨g,b⟩:∃j_:Int,(shl .u64 a0 (a))=j_:=⟨_,rfl⟩;replace H:(if 0≤(IntKind.u64.wrap (64-(a)))then(some (Go.bits .or .u64 (g) (shr .u64 a0 (IntKind.u64.wrap (64-(a))))))else(none))=some r:=by first |(rw[b]at H;exact H) |(simp only[b]at H ⊢;exact H)
  have m:(IntKind.u64.wrap (a0*2^min (a).toNat 64))=g:=b;have n:(a)≤64→(IntKind.u64.wrap (a0*2^(a).toNat))=g:=Qhy b;obtain⟨c,k⟩:∃j_:Int,(IntKind.u64.wrap (64-(a)))=j_:=⟨_,rfl⟩;replace H:(if 0≤(c)then(some (Go.bits .or .u64 (g) (shr .u64 a0 (c))))else(none))=some r:=by first |(rw[k]at H;exact H) |(simp only[k]at H ⊢;exact H)
  by_cases c7:0≤(c)
  ·rw[if_pos c7]at H;have t:=eq_true c7;have u:=decide_eq_true c7;clear c7;obtain⟨l,d⟩:∃j_:Int,(shr .u64 a0 (c))=j_:=⟨_,rfl⟩;replace H:(some (Go.bits .or .u64 (g) (l)))=some r:=by first |(rw[d]at H;exact H) |(simp only[d]at H ⊢;exact H)
   have o:(a0/2^min (c).toNat 64)=l:=d;have p:(c)≤64→(a0/2^(c).toNat)=l:=Qhz d;obtain rfl:=Option.some.inj H
   go_enter Tryz.func266,Tryz.ntmps266
   go_wp2;go_ret
   exact⟨by first|rfl |(simp;done) |(simp only[← j,← b,← k,← d]<;>(first|rfl|simp)) |(simp[*];done),by repeat(first|exact Drawn0.refl _|apply Drawn0.step)⟩
  ·rw[if_neg c7]at H;exact absurd H (by simp)
 ·rw[if_neg c4]at H;exact absurd H (by simp)
def Qcg.f(a0:Int)(a1:Int):Option (Int):=(Qac.f (IntKind.u64.wrap (a0+(IntKind.u64.wrap (a1*14029467366897019727)))) 31).bind fun t355=>(some (IntKind.u64.wrap (t355*11400714785074694791)))
theorem Qcg.calls(a0:Int)(a1:Int)(r:Int)(w:World)(h:Qcg.f a0 a1=some r) :
  Calls Tryz.prog 263 #[.int .u64 a0,.int .u64 a1] w fun e w'=>e=.returned (.int .u64 r)∧Drawn0 w w':=by
 have H:((Qac.f (IntKind.u64.wrap (a0+(IntKind.u64.wrap (a1*14029467366897019727)))) 31).bind fun t355=>(some (IntKind.u64.wrap (t355*11400714785074694791))))=some r:=h;clear h;replace H:=Option.bind_eq_some_iff.mp H;obtain⟨t355,A30,H⟩:=H;have A3:=QA A30;clear A30;obtain rfl:=Option.some.inj H
 go_enter Tryz.func263,Tryz.ntmps263
 go_wp2_with (first |((with_reducible refine Qhw (f:=266) rfl ?_);refine Qfz (some 9) rfl rfl Tryz.func266 qq_5 rfl #[.int .u64 (IntKind.u64.wrap (a0+(IntKind.u64.wrap (a1*14029467366897019727)))),.int .i64 31] rfl qq_1 ?_;(with_reducible refine(Qac.calls (IntKind.u64.wrap (a0+(IntKind.u64.wrap (a1*14029467366897019727)))) 31 t355 _ A3.out).mono ?_);rintro e w' ⟨rfl,⟨nd,rfl⟩⟩;refine⟨_,rfl,?_⟩))
 go_ret
 exact⟨by first|rfl |(simp;done) |(simp[*];done),by repeat(first|exact Drawn0.refl _|apply Drawn0.step)⟩
def Qch.l0:Nat→List Int→Int→Int→Int→Option (Int)
 | 0,_,_,_,_=>none
 | k+1,x0,x5,x7,x8=>if x8<x7 then(if 0≤x8 then(if x8<(x0.length:Int)then(if 0≤(wrap64 (8*x8))then(Qch.l0 k x0 (Go.bits .or .u64 x5 (shl .u64 (IntKind.u64.wrap (rd x0 x8)) (wrap64 (8*x8)))) x7 (wrap64 (x8+1)))else(none))else(none))else(none))else(some x5)
def Qch.f(k:Nat)(l0:List Int)(a1:Int):Option (Int):=Qch.l0 k l0 0 a1 0
theorem Qch.calls(k:Nat)(A0:Option Addr)(c0:Nat)(l0:List Int)(a1:Int)(r:Int)(w:World)(hr0:Kd.C (Kd.int .u8) w A0 l0.length l0)(hc0:l0.length≤c0)(h:Qch.f k l0 a1=some r) :
  Calls Tryz.prog 264 #[.slice A0 l0.length c0,.int .i64 a1] w fun e w'=>e=.returned (.int .u64 r)∧Drawn0 w w':=by
 have q:=QA hr0;have B:=QA hc0;clear hr0 hc0;have H:(Qch.l0 k l0 0 a1 0)=some r:=h;clear h;have H':=QA H;clear H
 go_enter Tryz.func264,Tryz.ntmps264
 go_wp2
 go_loopg [5,8] k (fun kq v5 v8 w'=>∃(b:Int) (a:Int),v5=.int .u64 b∧v8=.int .i64 a∧Aside0 (Qch.l0 kq l0 b a1 a=some r)∧Aside0 (kq≤k)∧Drawn0 w w')
 case atStart=>exact⟨(0),(0),qq_7,qq_7,H',⟨Nat.le_refl _⟩,by repeat(first|exact Drawn0.refl _|apply Drawn0.step)⟩
 case round =>
  clear H';obtain⟨b,a,rfl,rfl,HA,HK1,⟨m1,rfl⟩⟩:=hrel
  cases gk with
  | zero=>exact absurd HA.out (by simp[Qch.l0])
  | succ k1 =>
   have H:=HA.out;clear HA;simp only[Qch.l0]at H
   by_cases c3:a<a1
   ·rw [if_pos c3]at H;have n:=decide_eq_true c3;clear c3
    by_cases c4:0≤a
    ·rw[if_pos c4]at H;have x:=decide_eq_true c4;clear c4
     by_cases c5:a<(l0.length:Int)
     ·rw[if_pos c5]at H;have y:=decide_eq_true c5;clear c5;obtain⟨c,g⟩:∃j_:Int,(wrap64 (8*a))=j_:=⟨_,rfl⟩;replace H:(if 0≤(c)then(Qch.l0 k1 l0 (Go.bits .or .u64 b (shl .u64 (IntKind.u64.wrap (rd l0 a)) (c))) a1 (wrap64 (a+1)))else(none))=some r:=by first |(rw[g]at H;exact H) |(simp only[g]at H ⊢;exact H)
      have s:(IntKind.i64.wrap (8*a))=c:=(Qga _).trans g
      by_cases c7:0≤(c)
      ·rw[if_pos c7]at H;have z:=eq_true c7;have A:=decide_eq_true c7;clear c7;obtain⟨m,d⟩:∃j_:Int,(shl .u64 (IntKind.u64.wrap (rd l0 a)) (c))=j_:=⟨_,rfl⟩;replace H:(Qch.l0 k1 l0 (Go.bits .or .u64 b (m)) a1 (wrap64 (a+1)))=some r:=by first |(rw[d]at H;exact H) |(simp only[d]at H ⊢;exact H)
       have t:(IntKind.u64.wrap ((IntKind.u64.wrap (rd l0 a))*2^min (c).toNat 64))=m:=d;have u:(c)≤64→(IntKind.u64.wrap ((IntKind.u64.wrap (rd l0 a))*2^(c).toNat))=m:=Qhy d;have H':=QA H;clear H;have j:0≤(a:Int):=of_decide_eq_true qq_3;have l:a<(l0.length:Int):=of_decide_eq_true qq_3;obtain⟨v,o,p⟩:=Kd.at_int q.out a j l
       cases o
       replace j:=eq_true j;replace l:=eq_true l;go_wp2
       go_roundg k1
       case measure=>have:=HK1.out;omega
       case rel=>exact⟨(Go.bits .or .u64 b (m)),(wrap64 (a+1)),(by first|rfl |(simp;done) |(simp only[← d]<;>(first|rfl|simp)) |(simp[*];done)),qq_7,H',⟨by have:=HK1.out;omega⟩,by repeat(first|exact Drawn0.refl _|apply Drawn0.step)⟩
      ·rw[if_neg c7]at H;exact absurd H (by simp)
     ·rw[if_neg c5]at H;exact absurd H (by simp)
    ·rw[if_neg c4]at H;exact absurd H (by simp)
   ·rw[if_neg c3]at H;have n:=decide_eq_false c3;clear c3;obtain rfl:=Option.some.inj H;go_wp2;go_ret
    exact⟨by first|rfl |(simp;done) |(simp[*];done),by repeat(first|exact Drawn0.refl _|apply Drawn0.step)⟩
def Qao.f(a0_0:Int)(a0_1:Int):Option (Int):=if a0_0<12 then(some 1)else(if a0_0 > 24 then(some 1)else(if a0_1<1 then(some 1)else(if a0_1 > 65536 then(some 1)else(some 0))))
theorem Qao.calls(c:Int)(d:Int)(r:Int)(w:World)(h:Qao.f c d=some r) :
  Calls Tryz.prog 82 #[.agg #[.int .u8 c,.int .u32 d]] w fun e w'=>e=.returned (.int .i64 r)∧Below w.heap.size w w':=by
 have hu40:=Tryz.underlying40;have HB:=QA (Below.refl w.heap.size w);have H:(if c<12 then(some 1)else(if c > 24 then(some 1)else(if d<1 then(some 1)else(if d > 65536 then(some 1)else(some 0)))))=some r:=h;clear h
 by_cases c2:c<12
 ·rw[if_pos c2]at H;have m:=decide_eq_true c2;clear c2;obtain rfl:=Option.some.inj H
  go_enter Tryz.func82,Tryz.ntmps82
  go_wp2_with (first |((with_reducible refine Qfc (N:=1) rfl ?_);refine qq_e 1 #[.int .u8 c,.int .u32 d] 40 ?_;intro a hg w3 hbox hb;have n_:=qn4 (Qes qq_b hb) (hbox) (qq_s hg:w.heap.size≤a) (qq_s hg:w.heap.size≤a);clear HB;obtain⟨HB,b,g,j⟩:=n_;clear hb hbox hg;obtain⟨x,y⟩:=qc2 b.out;have G:=Qdg b.out))
  go_ret
  exact⟨qq_4,qq_b⟩
 ·rw [if_neg c2]at H;have m:=decide_eq_false c2;clear c2
  by_cases c5:c > 24
  ·rw[if_pos c5]at H;have n:decide (24<c)=true:=decide_eq_true c5;clear c5;obtain rfl:=Option.some.inj H
   go_enter Tryz.func82,Tryz.ntmps82
   go_wp2_with (first |((with_reducible refine Qfc (N:=1) rfl ?_);refine qq_e 1 #[.int .u8 c,.int .u32 d] 40 ?_;intro a hg w6 hbox hb;have n_:=qn4 (Qes qq_b hb) (hbox) (qq_s hg:w.heap.size≤a) (qq_s hg:w.heap.size≤a);clear HB;obtain⟨HB,b,g,j⟩:=n_;clear hb hbox hg;obtain⟨z,A⟩:=qc2 b.out;have I:=Qdg b.out))
   go_ret
   exact⟨qq_4,qq_b⟩
  ·rw[if_neg c5]at H;have n:decide (24<c)=false:=decide_eq_false c5;clear c5
   by_cases c8:d<1
   ·rw[if_pos c8]at H;have o:=decide_eq_true c8;clear c8;obtain rfl:=Option.some.inj H
    go_enter Tryz.func82,Tryz.ntmps82
    go_wp2_with (first |((with_reducible refine Qfc (N:=1) rfl ?_);refine qq_e 1 #[.int .u8 c,.int .u32 d] 40 ?_;intro a hg w9 hbox hb;have n_:=qn4 (Qes qq_b hb) (hbox) (qq_s hg:w.heap.size≤a) (qq_s hg:w.heap.size≤a);clear HB;obtain⟨HB,b,g,j⟩:=n_;clear hb hbox hg;obtain⟨p,q⟩:=qc2 b.out;have B:=Qdg b.out))
    go_ret
    exact⟨qq_4,qq_b⟩
   ·rw[if_neg c8]at H;have o:=decide_eq_false c8;clear c8
    by_cases k:d > 65536
    ·rw[if_pos k]at H;have l:decide (65536<d)=true:=decide_eq_true k;clear k;obtain rfl:=Option.some.inj H
     go_enter Tryz.func82,Tryz.ntmps82
     go_wp2_with (first |((with_reducible refine Qfc (N:=1) rfl ?_);refine qq_e 1 #[.int .u8 c,.int .u32 d] 40 ?_;intro a hg J hbox hb;have n_:=qn4 (Qes qq_b hb) (hbox) (qq_s hg:w.heap.size≤a) (qq_s hg:w.heap.size≤a);clear HB;obtain⟨HB,b,g,j⟩:=n_;clear hb hbox hg;obtain⟨s,t⟩:=qc2 b.out;have D:=Qdg b.out))
     go_ret
     exact⟨qq_4,qq_b⟩
    ·rw[if_neg k]at H;have l:decide (65536<d)=false:=decide_eq_false k;clear k;obtain rfl:=Option.some.inj H
     go_enter Tryz.func82,Tryz.ntmps82
     go_wp2_with (first |((with_reducible refine Qfc (N:=1) rfl ?_);refine qq_e 1 #[.int .u8 c,.int .u32 d] 40 ?_;intro a hg L hbox hb;have n_:=qn4 (Qes qq_b hb) (hbox) (qq_s hg:w.heap.size≤a) (qq_s hg:w.heap.size≤a);clear HB;obtain⟨HB,b,g,j⟩:=n_;clear hb hbox hg;obtain⟨u,v⟩:=qc2 b.out;have E:=Qdg b.out))
     go_ret
     exact⟨qq_4,qq_b⟩
def Qbl.f(a0_0:Int)(a0_1:Int)(a1:Int):Option (Int):=(Qao.f a0_0 a0_1).bind fun t119=>(if t119=0 then(if a1≥a0_1 then(some 1)else(some 0))else(some 1))
theorem Qbl.calls(c:Int)(b:Int)(a1:Int)(r:Int)(w:World)(h:Qbl.f c b a1=some r) :
  Calls Tryz.prog 152 #[.agg #[.int .u8 c,.int .u32 b],.int .u32 a1] w fun e w'=>e=.returned (.int .i64 r)∧Below w.heap.size w w':=by
 have hu40:=Tryz.underlying40;have HB:=QA (Below.refl w.heap.size w);have H:((Qao.f c b).bind fun j=>(if j=0 then(if a1≥b then(some 1)else(some 0))else(some 1)))=some r:=h;clear h;replace H:=Option.bind_eq_some_iff.mp H;obtain⟨j,m,H⟩:=H;have A3:=QA m;clear m
 by_cases c4:j=0
 ·rw[if_pos c4]at H;have n:(j == 0)=true:=beq_iff_eq.mpr c4;have p:(j != 0)=false:=bne_eq_false_iff_eq.mpr c4;clear c4
  by_cases c5:a1≥b
  ·rw[if_pos c5]at H;have q:decide (b≤a1)=true:=decide_eq_true c5;clear c5;obtain rfl:=Option.some.inj H
   go_enter Tryz.func152,Tryz.ntmps152
   go_wp2_with (first |((with_reducible refine Qfc (N:=2) rfl ?_);refine qq_e 2 #[.int .u8 c,.int .u32 b] 40 ?_;intro d hg w6 hbox hb;have n_:=qn4 (Qes qq_b hb) (hbox) (qq_s hg:w.heap.size≤d) (qq_s hg:w.heap.size≤d);clear HB;obtain⟨HB,a,k,l⟩:=n_;clear hb hbox hg;obtain⟨z,A⟩:=qc2 a.out;have J:=Qdg a.out) |((with_reducible refine Qhw (f:=82) rfl ?_);refine Qfz (some 6) rfl rfl Tryz.func82 qq_5 rfl #[.agg #[.int .u8 c,.int .u32 b]] rfl qq_1 ?_;(with_reducible refine(Qao.calls c b j _ A3.out).mono ?_);rintro e w8 ⟨rfl,hb⟩;refine⟨_,rfl,?_⟩;have n_:=qn2 (Qds (g:=d) (o:=.cells #[.int .u8 c,.int .u32 b] 40 (0,0)) qq_0 hb) (Qes qq_b hb);clear a HB;obtain⟨a,HB⟩:=n_;(try clear hb);(try clear hb2);(try clear hk);(try clear hi);obtain⟨B,D⟩:=qc2 a.out;have L:=Qdg a.out))
   go_ret
   exact⟨qq_4,qq_b⟩
  ·rw[if_neg c5]at H;have q:decide (b≤a1)=false:=decide_eq_false c5;clear c5;obtain rfl:=Option.some.inj H
   go_enter Tryz.func152,Tryz.ntmps152
   go_wp2_with (first |((with_reducible refine Qfc (N:=2) rfl ?_);refine qq_e 2 #[.int .u8 c,.int .u32 b] 40 ?_;intro d hg M hbox hb;have n_:=qn4 (Qes qq_b hb) (hbox) (qq_s hg:w.heap.size≤d) (qq_s hg:w.heap.size≤d);clear HB;obtain⟨HB,a,k,l⟩:=n_;clear hb hbox hg;obtain⟨s,t⟩:=qc2 a.out;have E:=Qdg a.out) |((with_reducible refine Qhw (f:=82) rfl ?_);refine Qfz (some 6) rfl rfl Tryz.func82 qq_5 rfl #[.agg #[.int .u8 c,.int .u32 b]] rfl qq_1 ?_;(with_reducible refine(Qao.calls c b j _ A3.out).mono ?_);rintro e O ⟨rfl,hb⟩;refine⟨_,rfl,?_⟩;have n_:=qn2 (Qds (g:=d) (o:=.cells #[.int .u8 c,.int .u32 b] 40 (0,0)) qq_0 hb) (Qes qq_b hb);clear a HB;obtain⟨a,HB⟩:=n_;(try clear hb);(try clear hb2);(try clear hk);(try clear hi);obtain⟨u,v⟩:=qc2 a.out;have G:=Qdg a.out))
   go_ret
   exact⟨qq_4,qq_b⟩
 ·rw[if_neg c4]at H;have n:(j == 0)=false:=beq_eq_false_iff_ne.mpr c4;have p:(j != 0)=true:=bne_iff_ne.mpr c4;obtain rfl:=Option.some.inj H
  go_enter Tryz.func152,Tryz.ntmps152
  go_wp2_with (first |((with_reducible refine Qfc (N:=2) rfl ?_);refine qq_e 2 #[.int .u8 c,.int .u32 b] 40 ?_;intro d hg P hbox hb;have n_:=qn4 (Qes qq_b hb) (hbox) (qq_s hg:w.heap.size≤d) (qq_s hg:w.heap.size≤d);clear HB;obtain⟨HB,a,k,l⟩:=n_;clear hb hbox hg;obtain⟨x,y⟩:=qc2 a.out;have I:=Qdg a.out) |((with_reducible refine Qhw (f:=82) rfl ?_);refine Qfz (some 6) rfl rfl Tryz.func82 qq_5 rfl #[.agg #[.int .u8 c,.int .u32 b]] rfl qq_1 ?_;(with_reducible refine(Qao.calls c b j _ A3.out).mono ?_);rintro e T ⟨rfl,hb⟩;refine⟨_,rfl,?_⟩;have n_:=qn2 (Qds (g:=d) (o:=.cells #[.int .u8 c,.int .u32 b] 40 (0,0)) qq_0 hb) (Qes qq_b hb);clear a HB;obtain⟨a,HB⟩:=n_;(try clear hb);(try clear hb2);(try clear hk);(try clear hi)))
  go_ret
  exact⟨qq_4,qq_b⟩
def Qaq.f(a0_0:Int)(a0_1:Int):Option (Int):=(Qao.f a0_0 a0_1).bind fun t127=>(if t127=0 then(if 0≤a0_0 then(some (shl .i64 1 a0_0))else(none))else(some 0))
theorem Qaq.calls(a:Int)(c:Int)(r:Int)(w:World)(h:Qaq.f a c=some r) :
  Calls Tryz.prog 57 #[.agg #[.int .u8 a,.int .u32 c]] w fun e w'=>e=.returned (.int .i64 r)∧Below w.heap.size w w':=by
 have hu40:=Tryz.underlying40;have HB:=QA (Below.refl w.heap.size w);have H:((Qao.f a c).bind fun d=>(if d=0 then(if 0≤a then(some (shl .i64 1 a))else(none))else(some 0)))=some r:=h;clear h;replace H:=Option.bind_eq_some_iff.mp H;obtain⟨d,s,H⟩:=H;have A2:=QA s;clear s
 by_cases c3:d=0
 ·rw[if_pos c3]at H;have t:(d == 0)=true:=beq_iff_eq.mpr c3;have u:(d != 0)=false:=bne_eq_false_iff_eq.mpr c3;clear c3
  by_cases c4:0≤a
  ·rw[if_pos c4]at H;have L:=eq_true c4;have M:=decide_eq_true c4;clear c4;obtain⟨l,k⟩:∃j_:Int,(shl .i64 1 a)=j_:=⟨_,rfl⟩;replace H:(some l)=some r:=by first |(rw[k]at H;exact H) |(simp only[k]at H ⊢;exact H)
   (try rw[k]at A2)
   have m:(IntKind.i64.wrap (1*2^min a.toNat 64))=l:=k;have n:a≤64→(IntKind.i64.wrap (1*2^a.toNat))=l:=Qhy k;have D:(IntKind.i64.wrap (2^min a.toNat 64))=l:=by have h_:=m;rw[Int.one_mul]at h_;exact h_
   have E:a≤64→(IntKind.i64.wrap (2^a.toNat))=l:=fun hle_=>by have h_:=n hle_;rw[Int.one_mul]at h_;exact h_
   have G:(wrap64 (1*2^min a.toNat 64))=l:=(Qga _).symm.trans m;have I:a≤64→(wrap64 (1*2^a.toNat))=l:=fun h_=>(Qga _).symm.trans (n h_)
   obtain rfl:=Option.some.inj H
   go_enter Tryz.func57,Tryz.ntmps57
   go_wp2_with (first |((with_reducible refine Qfc (N:=1) rfl ?_);refine qq_e 1 #[.int .u8 a,.int .u32 c] 40 ?_;intro j hg w6 hbox hb;have n_:=qn4 (Qes qq_b hb) (hbox) (qq_s hg:w.heap.size≤j) (qq_s hg:w.heap.size≤j);clear HB;obtain⟨HB,b,p,q⟩:=n_;clear hb hbox hg;obtain⟨y,z⟩:=qc2 b.out;have O:=Qdg b.out) |((with_reducible refine Qhw (f:=82) rfl ?_);refine Qfz (some 4) rfl rfl Tryz.func82 qq_5 rfl #[.agg #[.int .u8 a,.int .u32 c]] rfl qq_1 ?_;(with_reducible refine(Qao.calls a c d _ A2.out).mono ?_);rintro e w8 ⟨rfl,hb⟩;refine⟨_,rfl,?_⟩;have n_:=qn2 (Qds (g:=j) (o:=.cells #[.int .u8 a,.int .u32 c] 40 (0,0)) qq_0 hb) (Qes qq_b hb);clear b HB;obtain⟨b,HB⟩:=n_;(try clear hb);(try clear hb2);(try clear hk);(try clear hi);obtain⟨A,B⟩:=qc2 b.out;have P:=Qdg b.out))
   go_ret
   exact⟨by first|rfl |(simp[Qib,Qic]<;>rfl) |(simp only[← k];first|rfl |(simp[Qib,Qic]<;>rfl)) |(simp[*,Qib,Qic]<;>rfl),qq_b⟩
  ·rw[if_neg c4]at H;exact absurd H (by simp)
 ·rw[if_neg c3]at H;have t:(d == 0)=false:=beq_eq_false_iff_ne.mpr c3;have u:(d != 0)=true:=bne_iff_ne.mpr c3;obtain rfl:=Option.some.inj H
  go_enter Tryz.func57,Tryz.ntmps57
  go_wp2_with (first |((with_reducible refine Qfc (N:=1) rfl ?_);refine qq_e 1 #[.int .u8 a,.int .u32 c] 40 ?_;intro j hg T hbox hb;have n_:=qn4 (Qes qq_b hb) (hbox) (qq_s hg:w.heap.size≤j) (qq_s hg:w.heap.size≤j);clear HB;obtain⟨HB,b,p,q⟩:=n_;clear hb hbox hg;obtain⟨v,x⟩:=qc2 b.out;have J:=Qdg b.out) |((with_reducible refine Qhw (f:=82) rfl ?_);refine Qfz (some 4) rfl rfl Tryz.func82 qq_5 rfl #[.agg #[.int .u8 a,.int .u32 c]] rfl qq_1 ?_;(with_reducible refine(Qao.calls a c d _ A2.out).mono ?_);rintro e U ⟨rfl,hb⟩;refine⟨_,rfl,?_⟩;have n_:=qn2 (Qds (g:=j) (o:=.cells #[.int .u8 a,.int .u32 c] 40 (0,0)) qq_0 hb) (Qes qq_b hb);clear b HB;obtain⟨b,HB⟩:=n_;(try clear hb);(try clear hb2);(try clear hk);(try clear hi)))
  go_ret
  exact⟨qq_4,qq_b⟩
def Qbb.f(a0:Int):Option (Int):=some (wrap64 (Int.tdiv (wrap64 ((wrap64 ((mx 0 a0)+16))-1)) 16))
theorem Qbb.calls(a0:Int)(r:Int)(w:World)(h:Qbb.f a0=some r) :
  Calls Tryz.prog 239 #[.int .i64 a0] w fun e w'=>e=.returned (.int .i64 r)∧Below w.heap.size w w':=by
 have HB:=QA (Below.refl w.heap.size w);have H:(some (wrap64 (Int.tdiv (wrap64 ((wrap64 ((mx 0 a0)+16))-1)) 16)))=some r:=h;clear h;obtain⟨ji2,hji2⟩:∃j_:Int,(mx 0 a0)=j_:=⟨_,rfl⟩;replace H:(some (wrap64 (Int.tdiv (wrap64 ((wrap64 ((ji2)+16))-1)) 16)))=some r:=by first |(rw[hji2]at H;exact H) |(simp only[hji2]at H ⊢;exact H)
 (try(have hji2l:0≤ji2:=by(rw[← hji2];unfold mx;(repeat' split)<;>omega)))
 (try(have hji2m:0≤ji2:=by omega))
 have hji2_:(if 0<a0 then a0 else 0)=ji2:=hji2;obtain rfl:=Option.some.inj H
 go_enter Tryz.func239,Tryz.ntmps239
 go_wp2;go_ret
 exact⟨by first|rfl |(simp[Qib,Qic]<;>rfl) |(simp only[← hji2];first|rfl |(simp[Qib,Qic]<;>rfl)) |(simp[*,Qib,Qic]<;>rfl),qq_b⟩
def Qbk.f(a0:Int):Option (Int):=(Qal.f (wrap64 ((mx 0 a0)+8))).bind fun t128=>(some (wrap64 (t128+1)))
theorem Qbk.calls(a0:Int)(r:Int)(w:World)(h:Qbk.f a0=some r) :
  Calls Tryz.prog 285 #[.int .i64 a0] w fun e w'=>e=.returned (.int .i64 r)∧Below w.heap.size w w':=by
 have HB:=QA (Below.refl w.heap.size w);have H:((Qal.f (wrap64 ((mx 0 a0)+8))).bind fun t128=>(some (wrap64 (t128+1))))=some r:=h;clear h;obtain⟨ji2,hji2⟩:∃j_:Int,(mx 0 a0)=j_:=⟨_,rfl⟩;replace H:((Qal.f (wrap64 ((ji2)+8))).bind fun t128=>(some (wrap64 (t128+1))))=some r:=by first |(rw[hji2]at H;exact H) |(simp only[hji2]at H ⊢;exact H)
 (try(have hji2l:0≤ji2:=by(rw[← hji2];unfold mx;(repeat' split)<;>omega)))
 (try(have hji2m:0≤ji2:=by omega))
 have hji2_:(if 0<a0 then a0 else 0)=ji2:=hji2;replace H:=Option.bind_eq_some_iff.mp H;obtain⟨t128,A30,H⟩:=H;have A3:=QA A30;clear A30;obtain rfl:=Option.some.inj H
 go_enter Tryz.func285,Tryz.ntmps285
 go_wp2_with (first |((with_reducible refine Qhw (f:=246) rfl ?_);refine Qfz (some 6) rfl rfl Tryz.func246 qq_5 rfl #[.int .i64 (wrap64 ((ji2)+8))] rfl qq_26 ?_;(with_reducible refine(Qal.calls (wrap64 ((ji2)+8)) t128 _ A3.out).mono ?_);rintro e w' ⟨rfl,⟨nd,rfl⟩⟩;refine⟨_,rfl,?_⟩))
 go_ret
 exact⟨by first|rfl |(simp[Qib,Qic]<;>rfl) |(simp only[← hji2];first|rfl |(simp[Qib,Qic]<;>rfl)) |(simp[*,Qib,Qic]<;>rfl),qq_b⟩
def Qbe.f(a0:Int):Option (Int):=(Qbb.f (mx 0 a0)).bind fun t129=>((Qbk.f (wrap64 ((wrap64 (9+(wrap64 (12*(mx 0 a0)))))+(wrap64 (8*t129))))).bind fun t130=>(some t130))
theorem Qbe.calls(a0:Int)(r:Int)(w:World)(h:Qbe.f a0=some r) :
  Calls Tryz.prog 247 #[.int .i64 a0] w fun e w'=>e=.returned (.int .i64 r)∧Below w.heap.size w w':=by
 have HB:=QA (Below.refl w.heap.size w);have H:((Qbb.f (mx 0 a0)).bind fun a=>((Qbk.f (wrap64 ((wrap64 (9+(wrap64 (12*(mx 0 a0)))))+(wrap64 (8*a))))).bind fun c=>(some c)))=some r:=h;clear h;obtain⟨b,hji2⟩:∃j_:Int,(mx 0 a0)=j_:=⟨_,rfl⟩;replace H:((Qbb.f (b)).bind fun a=>((Qbk.f (wrap64 ((wrap64 (9+(wrap64 (12*(b)))))+(wrap64 (8*a))))).bind fun c=>(some c)))=some r:=by first |(rw[hji2]at H;exact H) |(simp only[hji2]at H ⊢;exact H)
 (try(have j:0≤b:=by(rw[← hji2];unfold mx;(repeat' split)<;>omega)))
 (try(have k:0≤b:=by omega))
 have l:(if 0<a0 then a0 else 0)=b:=hji2;replace H:=Option.bind_eq_some_iff.mp H;obtain⟨a,d,H⟩:=H;have A3:=QA d;clear d;replace H:=Option.bind_eq_some_iff.mp H;obtain⟨c,g,H⟩:=H;have A4:=QA g;clear g;obtain rfl:=Option.some.inj H
 go_enter Tryz.func247,Tryz.ntmps247
 go_wp2_with (first |((with_reducible refine Qhw (f:=239) rfl ?_);refine Qfz (some 9) rfl rfl Tryz.func239 qq_5 rfl #[.int .i64 b] rfl qq_26 ?_;(with_reducible refine(Qbb.calls b a _ A3.out).mono ?_);rintro e w5 ⟨rfl,hb⟩;refine⟨_,rfl,?_⟩;have n_:=qn1 (Qes qq_b hb);clear HB;have HB:=n_;clear n_;(try clear hb);(try clear hb2);(try clear hk);(try clear hi)) |((with_reducible refine Qhw (f:=285) rfl ?_);refine Qfz (some 12) rfl rfl Tryz.func285 qq_5 rfl #[.int .i64 (wrap64 ((wrap64 (9+(wrap64 (12*(b)))))+(wrap64 (8*a))))] rfl qq_26 ?_;(with_reducible refine(Qbk.calls (wrap64 ((wrap64 (9+(wrap64 (12*(b)))))+(wrap64 (8*a)))) c _ A4.out).mono ?_);rintro e w6 ⟨rfl,hb⟩;refine⟨_,rfl,?_⟩;have n_:=qn1 (Qes qq_b hb);clear HB;have HB:=n_;clear n_;(try clear hb);(try clear hb2);(try clear hk);(try clear hi)))
 go_ret
 exact⟨by first|rfl |(simp[Qib,Qic]<;>rfl) |(simp only[← hji2];first|rfl |(simp[Qib,Qic]<;>rfl)) |(simp[*,Qib,Qic]<;>rfl),qq_b⟩
def Qbt.f(a0_0:Int)(a0_1:Int)(a0_2:Int)(a0_3:Int)(a0_4:Int):Option (Int):=(Qaq.f a0_0 a0_1).bind fun t132=>((Qbe.f (wrap64 (a0_4+1))).bind fun t133=>(some (mx 0 (wrap64 ((wrap64 (t132-a0_3))-t133)))))
def Qbt.T1:Bool × List (List Nat × List Nat):=(true,[([],[]),([0],[0]),([1],[1]),([],[]),([3],[3]),([2,4],[2,4]),([],[]),([6],[6]),([7],[7]),([8,2],[8]),([5,9],[5,9]),([10],[10]),([11,9,0,1,2,3,4,5,6,7,8,9,10,11],[11])])
def Qbt.B1:List Nat:=[0,1,3,0,8,31,0,64,192,455,1023,2047,4095]
theorem Qbt.tab1:rtab .any (Qhg Tryz.f198 1)=Qbt.T1:=by kernel_rfl
theorem Qbt.bits1:Qha Qbt.T1.2 Qbt.B1=true:=by kernel_rfl
theorem Qbt.calls(d:Int)(j:Int)(p:Int)(c:Int)(k:Int)(r:Int)(w:World)(h:Qbt.f d j p c k=some r) :
  Calls Tryz.prog 198 #[.agg #[.int .u8 d,.int .u32 j,.int .u32 p,.int .i64 c,.int .i64 k]] w fun e w'=>e=.returned (.int .i64 r)∧Below w.heap.size w w':=by
 have hu125:=Tryz.underlying125;have hu40:=Tryz.underlying40;have HB:=QA (Below.refl w.heap.size w);have H:((Qaq.f d j).bind fun q=>((Qbe.f (wrap64 (k+1))).bind fun s=>(some (mx 0 (wrap64 ((wrap64 (q-c))-s))))))=some r:=h;clear h;replace H:=Option.bind_eq_some_iff.mp H;obtain⟨q,u,H⟩:=H;have A2:=QA u;clear u;replace H:=Option.bind_eq_some_iff.mp H;obtain⟨s,v,H⟩:=H;have A3:=QA v;clear v;obtain⟨t,m⟩:∃j_:Int,(mx 0 (wrap64 ((wrap64 (q-c))-s)))=j_:=⟨_,rfl⟩;replace H:(some t)=some r:=by first |(rw[m]at H;exact H) |(simp only[m]at H ⊢;exact H)
 (try rw[m]at A2)
 (try rw[m]at A3)
 (try(have x:0≤t:=by(rw[← m];unfold mx;(repeat' split)<;>omega)))
 (try(have y:0≤t:=by omega))
 have z:(if 0<(wrap64 ((wrap64 (q-c))-s))then(wrap64 ((wrap64 (q-c))-s))else 0)=t:=m;obtain rfl:=Option.some.inj H
 go_enter Tryz.func198,Tryz.ntmps198
 try go_wp2_with (first |((with_reducible refine Qfc (N:=1) rfl ?_);refine qq_e 1 #[.int .u8 d,.int .u32 j,.int .u32 p,.int .i64 c,.int .i64 k] 125 ?_;intro b hg w5 hbox hb;have n_:=qn4 (Qes qq_b hb) (hbox) (qq_s hg:w.heap.size≤b) (qq_s hg:w.heap.size≤b);clear HB;obtain⟨HB,a,A,B⟩:=n_;clear hb hbox hg))
 have n_:=qn2 (Qdq a.out) (Qez HB.out);clear a HB;obtain⟨a,HB⟩:=n_;refine Qfq (n:=13) (S:=fun w'=>w'.cell? ⟨b,0,none⟩=some (.int .u8 d)∧w'.cell? ⟨b,1,none⟩=some (.int .u32 j)∧w'.cell? ⟨b,2,none⟩=some (.int .u32 p)∧w'.cell? ⟨b,3,none⟩=some (.int .i64 c)∧w'.cell? ⟨b,4,none⟩=some (.int .i64 k)) (ds:=[]) (bm 13 0) qq_5 rfl rfl ⟨(Qdf a.out 0).trans rfl,(Qdf a.out 1).trans rfl,(Qdf a.out 2).trans rfl,(Qdf a.out 3).trans rfl,(Qdf a.out 4).trans rfl⟩ (fun l=>?_);refine Qhe Qbt.tab1 Qbt.bits1 (fun HT_ HW_=>?_);generalize w5.drew=w6 at a HB l ⊢;refine pz_ (i:=0) (N:=some 3) (bm 13 1) (Qgw HT_.out qq_5) ?_;refine pz_ (i:=3) (N:=some 6) (bm 13 9) (Qgw HT_.out qq_5) ?_;refine pz_ (i:=6) (N:=some 9) (bm 13 73) (Qgw HT_.out qq_5) ?_;refine tz_ (i:=1) (N:=some 4) (bm 13 75) (Qhd HT_.out HW_.out qq_5) l ?_;refine tz_ (i:=4) (N:=some 7) (bm 13 91) (Qhd HT_.out HW_.out qq_5) l ?_;refine tz_ (i:=7) (N:=some 10) (bm 13 219) (Qhd HT_.out HW_.out qq_5) l ?_;refine pz_ (i:=8) (N:=some 11) (bm 13 475) (Qgw HT_.out qq_5) ?_;refine one_ (i:=2) (N:=some 5) (bm 13 479) rfl rfl (Qgx HT_.out qq_5) (by decide) (fun K hK=>?_);refine Qfy Tryz.func57 qq_5 rfl #[.agg #[.int .u8 d,.int .u32 j]] (by rfl) rfl rfl qq_1 ?_;with_reducible refine(Qaq.calls d j q _ A2.out).mono ?_
 rintro e w7 ⟨rfl,hb⟩;refine⟨_,rfl,?_⟩;have n_:=qn2 (Qds (g:=b) (o:=.cells #[.int .u8 d,.int .u32 j,.int .u32 p,.int .i64 c,.int .i64 k] 125 (0,0)) qq_0 hb) (Qes qq_b hb);clear a HB;obtain⟨a,HB⟩:=n_
 (try clear hb)
 (try clear hb2)
 (try clear hk)
 (try clear hi)
 refine hK.out _ _ ⟨(Qdf a.out 0).trans rfl,(Qdf a.out 1).trans rfl,(Qdf a.out 2).trans rfl,(Qdf a.out 3).trans rfl,(Qdf a.out 4).trans rfl⟩ (fun l=>?_);clear hK K;refine nzp_ 5 ?_;refine pz_ (i:=5) (N:=some 8) (bm 13 511) (Qgw HT_.out qq_5) ?_;refine one_ (i:=9) (N:=some 12) (bm 13 1023) rfl rfl (Qgx HT_.out qq_5) (by decide) (fun K hK=>?_);refine Qfy Tryz.func247 qq_5 rfl #[.int .i64 (wrap64 (k+1))] (by rfl) rfl rfl qq_1 ?_;with_reducible refine(Qbe.calls (wrap64 (k+1)) s _ A3.out).mono ?_
 rintro e w8 ⟨rfl,hb⟩;refine⟨_,rfl,?_⟩;have n_:=qn2 (Qds (g:=b) (o:=.cells #[.int .u8 d,.int .u32 j,.int .u32 p,.int .i64 c,.int .i64 k] 125 (0,0)) qq_0 hb) (Qes qq_b hb);clear a HB;obtain⟨a,HB⟩:=n_
 (try clear hb)
 (try clear hb2)
 (try clear hk)
 (try clear hi)
 refine hK.out _ _ ⟨(Qdf a.out 0).trans rfl,(Qdf a.out 1).trans rfl,(Qdf a.out 2).trans rfl,(Qdf a.out 3).trans rfl,(Qdf a.out 4).trans rfl⟩ (fun l=>?_);clear hK K;refine nzp_ 12 ?_;refine pz_ (i:=10) (N:=some 13) (bm 13 2047) (Qgw HT_.out qq_5) ?_;refine pz_ (i:=11) (N:=some 14) (bm 13 4095) (Qgw HT_.out qq_5) ?_;refine pz_ (i:=12) (N:=some 2) (bm 13 8191) (Qgw HT_.out qq_5) ?_;refine Qfu (Qgz HT_.out qq_5) ?_
 try go_wp2
 go_ret
 exact⟨by first|rfl |(simp[Qib,Qic]<;>rfl) |(simp only[← m];first|rfl |(simp[Qib,Qic]<;>rfl)) |(simp[*,Qib,Qic]<;>rfl),qq_b⟩
end Go.Proofs.YtepkfjmjidjedaaGreat.C
end
