/- Texts of this claim's author and of the print of its functions, merged by merge.py. -/
import Derived.Test.YtnnofopfbeklbaaGreatMI02
import Derived.WalkLawsBesides
import Derived.Recover
import Derived.Defers
import Derived.Test.YtnnofopfbeklbaaGreatMI10
import Derived.Test.YtnnofopfbeklbaaGreatMI06
import Derived.Test.YtnnofopfbeklbaaGreatMI07
import Derived.Test.YtnnofopfbeklbaaGreatMI14
import Derived.Test.YtnnofopfbeklbaaGreatMI08
import Derived.Test.YtnnofopfbeklbaaGreatMI05
import Derived.Test.YtnnofopfbeklbaaGreatMI12
import Derived.Test.YtnnofopfbeklbaaGreatMI13
set_option linter.unusedVariables false
set_option linter.unusedSimpArgs false
set_option maxHeartbeats 8000000
set_option maxRecDepth 100000
section
namespace Go.Proofs.YtnnofopfbeklbaaGreat.C
open Go.RowKit Go.Proofs.YtnnofopfbeklbaaGreatW.PrintWords Go.Proofs.YtnnofopfbeklbaaGreatW.PrintLast Go.Proofs.YtnnofopfbeklbaaGreatW.PrintMore
abbrev Pr:=S207
def oneL (bs:List Int) (i:Nat):Except (Int × Int) (Pr × Nat) :=
 if bs.length<i+8 then .error (2,(i:Int))else
  let k:=CodecP.leI ((bs.drop i).take 4);let v:=CodecP.leI ((bs.drop (i+4)).take 4)
  if k=0 then .error (4,((i+8:Nat):Int))else if 4096<k∨1048576<v then .error (3,((i+8:Nat):Int))else
   if(bs.length:Int)<((i+8:Nat):Int)+k+v+4 then .error (2,((i+8:Nat):Int))else
    if Qlc 0 (leb k 4++leb v 4++bytesOf (strOfNums ((bs.drop (i+8)).take k.toNat))++bytesOf (strOfNums ((bs.drop (i+8+k.toNat)).take v.toNat)))=CodecP.leI ((bs.drop (i+8+k.toNat+v.toNat)).take 4)then
     .ok (⟨strOfNums ((bs.drop (i+8)).take k.toNat),strOfNums ((bs.drop (i+8+k.toNat)).take v.toNat)⟩,i+8+k.toNat+v.toNat+4)
    else .error (5,((i+8+k.toNat+v.toNat+4:Nat):Int))
def allL(bs:List Int):Nat→Nat→List Pr→List Pr × Int × Int
 | 0,i,acc=>(acc,(i:Int),0)
 | f+1,i,acc=>if i<bs.length then(match oneL bs i with
   | .ok (p,j)=>allL bs f j (acc++[p])
   | .error (er,_)=>(acc,(i:Int),er))else(acc,(i:Int),0)
theorem Qnd(k v:Int):Qao.f k v=some (if k=0 then 4 else if 4096<k then 3 else if 1048576<v then 3 else 0):=by
 unfold Qao.f
 repeat' split
 all_goals first|rfl|omega
theorem Qne(lo g:Nat)(bs:List Int)(i:Nat)(hb:CodecP.Bytes bs)(hl:bs.length≤100000000)(hi:i≤bs.length)(hlg:lo≤g)(w:World)(hbw:lo≤w.heap.size)(hI:IsCur w lo g bs (i:Int)) :
  Calls Tryz.prog 140 #[.pointer (some ⟨g,0,none⟩)] w fun e w'=>Bw lo g w w'∧(match oneL bs i with
   | .ok (p,j)=>e=.returned (.agg #[.string p.f0,.string p.f1])∧IsCur w' lo g bs (j:Int)∧i<j∧j≤bs.length
   | .error (er,_)=>er≠0∧e=.panicked [Qke g er]∧∃j:Int,IsCur w' lo g bs j):=by
 unfold oneL
 by_cases h8:bs.length<i+8
 ·rw[if_pos h8]
  refine(Qmw lo g bs i hl hi hlg w hbw hI h8).mono ?_
  rintro e w' ⟨rfl,h1,h2⟩
  exact⟨h2,by decide,rfl,_,h1⟩
 ·rw [if_neg h8]
  obtain⟨k,hk⟩:∃k,k=CodecP.leI ((bs.drop i).take 4):=⟨_,rfl⟩
  obtain⟨v,hv⟩:∃v,v=CodecP.leI ((bs.drop (i+4)).take 4):=⟨_,rfl⟩
  have hkr:=(CodecP.leI_range ((hb.drop i).take 4)).1
  have hvr:=(CodecP.leI_range ((hb.drop (i+4)).take 4)).1
  rw[← hk]at hkr
  rw[← hv]at hvr
  dsimp only
  rw[← hk,← hv]
  have hL:=Qnd k v
  by_cases h0:k=0
  ·rw[if_pos h0]at hL ⊢
   refine(Qmx lo g bs i hb hl hlg w hbw hI (by omega) k v 4 hk hv hL (by decide)).mono ?_
   rintro e w' ⟨rfl,h1,h2⟩
   exact⟨h2,by decide,rfl,_,h1⟩
  ·rw [if_neg h0]at hL ⊢
   by_cases hbig:4096<k∨1048576<v
   ·rw[if_pos hbig]
    refine(Qmx lo g bs i hb hl hlg w hbw hI (by omega) k v 3 hk hv (by rw[hL];(repeat' split)<;>first|rfl|omega) (by decide)).mono ?_
    rintro e w' ⟨rfl,h1,h2⟩
    exact⟨h2,by decide,rfl,_,h1⟩
   ·rw[if_neg hbig]
    rw[if_neg (by omega),if_neg (by omega)]at hL
    by_cases hsh:(bs.length:Int)<((i+8:Nat):Int)+k+v+4
    ·rw[if_pos hsh]
     refine(Qmy lo g bs i hb hl hlg w hbw hI (by omega) k v hk hv hL (by omega)).mono ?_
     rintro e w' ⟨rfl,h1,h2⟩
     exact⟨h2,by decide,rfl,_,h1⟩
    ·rw[if_neg hsh]
     have t1:((i:Int)+4+4).toNat=i+8:=by omega
     have t2:((i:Int)+4+4+k).toNat=i+8+k.toNat:=by omega
     have t3:((i:Int)+4+4+k+v).toNat=i+8+k.toNat+v.toNat:=by omega
     have hm:=Qnc lo g bs i hb hl hlg w hbw hI (by omega) k v hk hv hL (by omega) (CodecP.leI ((bs.drop (i+8+k.toNat+v.toNat)).take 4)) (by rw[t3]) ((bs.drop (i+8)).take k.toNat) ((bs.drop (i+8+k.toNat)).take v.toNat) (by rw[t1]) (by rw[t2])
     refine hm.mono ?_
     rintro e w' ⟨⟨h1,h2⟩,⟨h3,rfl⟩ |⟨h3,rfl⟩⟩
     ·rw[if_pos h3]
      refine⟨h2,rfl,?_,by omega,by omega⟩
      rw[show((i+8+k.toNat+v.toNat+4:Nat):Int)=(i:Int)+4+4+k+v+4 by omega]
      exact h1
     ·rw[if_neg h3]
      exact⟨h2,by decide,rfl,_,h1⟩
def Qan.f(l0:List Int):Option (List Pr × Int × Int):=if l0.all (fun x=>decide (0≤x∧x<256))=true∧l0.length≤100000000 then some (allL l0 (l0.length+1) 0 [])else none
theorem bytes_all{l:List Int}:l.all (fun x=>decide (0≤x∧x<256))=true↔CodecP.Bytes l:=by
 rw[List.all_eq_true]
 exact⟨fun h x hx=>by simpa using h x hx,fun h x hx=>by simpa using h x hx⟩
def RP(W:World)(b:Nat)(v:Value)(xs:List Pr):Prop:=(k207).R 207 W b (fun _=>True) v xs
theorem RP.cur{W W':World}{b g b':Nat}{v:Value}{xs:List Pr}{bs:List Int}{i:Int}(h:RP W b' v xs)(hI:IsCur W b g bs i)(hT:Bw b g W W'):RP W' b' v xs:=by
 obtain⟨u,hu,_⟩:=hI
 refine Kd.R_mono (Kd.R_step (Kd.R_bound h) (fun k hk _=>?_)) (fun _ _=>trivial)
 obtain⟨q,hq,cells,hc⟩:=hk.2.2.2
 have ht:∀q,q∈207 :: (k207).E→q=207:=by decide
 obtain rfl:=ht q hq
 rw[hc]
 exact hT.2 k cells _ hc (by decide) (Qcw hc hu (by decide))
theorem RP.ty{W W':World}{b':Nat}{v:Value}{xs:List Pr}(h:RP W b' v xs)(hT:Ty W W'):RP W' b' v xs:=by
 refine Kd.R_mono (Kd.R_step (Kd.R_bound h) (fun k hk _=>?_)) (fun _ _=>trivial)
 obtain⟨q,hq,cells,hc⟩:=hk.2.2.2
 have ht:∀q,q∈207 :: (k207).E→q=207:=by decide
 obtain rfl:=ht q hq
 rw[hc]
 exact hT k cells _ hc (by decide) (by decide) (by decide)
structure GS (w W:World) (lo g lb:Nat) (bs:List Int) (i n:Int) (acc:List Pr) (v:Value):Prop where
  cur:IsCur W lo g bs i
  low:Below lb w W
  tl:Tl lo g w W
  l:W.heap[lb]? = some (.cells #[v] 149 (0,0))
  rows:RP W w.heap.size v acc
  n:W.heap[lb+1]? = some (.cells #[.int .i64 n] 3 (0,0))
  lt:lb+1<lo
  size:lo≤w.heap.size
section
variable {w W W':World} {lo g lb:Nat} {bs:List Int} {i j n:Int} {acc:List Pr} {v:Value}
theorem GS.grow(h:GS w W lo g lb bs i n acc v):w.heap.size≤W.heap.size:=h.low.size
theorem GS.go(h:GS w W lo g lb bs i n acc v)(hI:IsCur W' lo g bs j)(hB:Bw lo g W W'):GS w W' lo g lb bs j n acc v :=
 ⟨hI,h.low.trans (Qia hB.1 (by have:=h.lt;omega)),fun k cs t h1 h2 h3 h4=>hB.2 _ _ _ (h.tl k cs t h1 h2 h3 h4) h3 h4,
  (hB.1.block lb (by have:=h.lt;omega)).trans h.l,h.rows.cur h.cur hB,(hB.1.block (lb+1) h.lt).trans h.n,h.lt,h.size⟩
theorem GS.below(h:GS w W lo g lb bs i n acc v)(hb:Below W.heap.size W W'):GS w W' lo g lb bs i n acc v :=
 h.go (h.cur.kept hb) (Bw.below hb (Nat.le_trans h.size h.grow))
theorem GS.app{w1:World}{v1:Value}{acc1:List Pr}(h:GS w W lo g lb bs i n acc v)(hR:RP w1 w.heap.size v1 acc1)(hb:Below w.heap.size W w1)(hg:W.grownBy w1 v.ownBlock)(hlg:lo≤g) :
  w1.heap[lb]? = some (.cells #[v] 149 (0,0))∧GS w (w1.setCell ⟨lb,0,none⟩ v1) lo g lb bs i n acc1 v1:=by
 have hlt:=h.lt
 have hlb:w1.heap[lb]? = some (.cells #[v] 149 (0,0)):=(hb.block lb (by have:=h.size;omega)).trans h.l
 have hn:=(hb.block (lb+1) (by have:=h.size;omega)).trans h.n
 obtain⟨u,hu,hur⟩:=h.cur.grown h.rows ⟨by decide,by decide⟩ hg
 refine⟨hlb,⟨u,Qcr hu (p:=⟨lb,0,none⟩) (Qcw hu hlb (by decide)) _,hur.set hlb (by decide) 0 _⟩,?_,?_,Qcq hlb 0 _,Kd.R_set hR hlb (by decide) 0 _,Qcr hn (p:=⟨lb,0,none⟩) (show lb+1≠lb by omega) _,hlt,h.size⟩
 ·exact Qhz (h.low.trans (Qia hb (by have:=h.size;omega))) (Nat.le_refl _)
 ·intro k cs t h1 h2 h3 h4
  exact Qcr ((hb.block k (Qcs h2)).trans (h.tl k cs t h1 h2 h3 h4)) (p:=⟨lb,0,none⟩) (show k≠lb by omega) _
theorem GS.num(h:GS w W lo g lb bs i n acc v)(hlg:lo≤g)(m:Int):GS w (W.setCell ⟨lb+1,0,none⟩ (.int .i64 m)) lo g lb bs i m acc v:=by
 have hlt:=h.lt
 obtain⟨u,hu,hur⟩:=h.cur
 refine⟨⟨u,Qcr hu (p:=⟨lb+1,0,none⟩) (Qcw hu h.n (by decide)) _,hur.set h.n (by decide) 0 _⟩,Qhz h.low (Nat.le_succ _),?_,Qcr h.l (p:=⟨lb+1,0,none⟩) (show lb≠lb+1 by omega) _,Kd.R_set h.rows h.n (by decide) 0 _,Qcq h.n 0 _,hlt,h.size⟩
 intro k cs t h1 h2 h3 h4
 exact Qcr (h.tl k cs t h1 h2 h3 h4) (p:=⟨lb+1,0,none⟩) (show k≠lb+1 by omega) _
end
def posOf(W:World)(g:Nat):Nat:=match W.cell? ⟨g,1,none⟩with
 | some (.int _ i)=>i.toNat
 | _=>0
theorem Qnf{W:World}{b g:Nat}{bs:List Int}{i:Nat}(h:IsCur W b g bs (i:Int)):posOf W g=i:=by
 obtain⟨A,c,h0,h1,_⟩:=h.cells
 unfold posOf
 rw[h1]
 exact Int.toNat_natCast i
theorem Qng:(Tryz.prog.info? 207).map (fun i=>(i.zero,i.size,i.bytes))=some (some (.agg #[.string (⟨#[]⟩:ByteArray),.string (⟨#[]⟩:ByteArray)]),2,32):=by kernel_rfl
theorem goesP_{P:Program}{ops:Array Oper}{Q:Exit→Act→World→Prop}{oi:Oper}{N:Option Tmp}{a:Act}{w:World}{K:Act→World→Prop}{f:FuncId}{fn:Func}{as_:Array Operand}{ts:Array TypeId}(hf:P.funcs[f]? = some fn)(hname:(fn.name == "runtime.NumGoroutine")=false)(hb:fn.body.isSome=true)(args:Array Value)
  (hw:Region.wanted oi (yielded ops a.tmps)=true) (hop:oi.op=.call { callee:=.value (.func f),args:=as_,argTypes:=ts }) (hargs:as_.map a.eval=args)
  (h:Calls P f args w fun e w'=>∃ch,e=.panicked ch∧Q (.panic ch) a w'):if Region.wanted oi (yielded ops a.tmps)=true then Oper.wp P oi a w K Q else K (a.put N undef) w:=by
 have he:=Qfi hf hname hb args w
 have hrun:(execOp a.eval oi).run P w=.ok (.enter f args) w:=by
  unfold execOp
  simp[hop,resolve,Deferred.ofValue,invoke,Act.eval,hargs,he]
 rw[if_pos hw]
 unfold Oper.wp
 rw[hrun,Oper.upon_enter]
 refine h.mono fun e w'' hh=>?_
 obtain⟨ch,rfl,hk⟩:=hh
 exact hk
theorem Qnh(lo g lb:Nat)(bs:List Int)(hb:CodecP.Bytes bs)(hl:bs.length≤100000000)(hlg:lo≤g)(w:World)(hS:GS w w lo g lb bs 0 0 [] (.slice none 0 0)) :
  Calls Tryz.prog 138 #[.pointer (some ⟨g,0,none⟩),.pointer (some ⟨lb,0,none⟩),.pointer (some ⟨lb+1,0,none⟩)] w fun e w' =>
   ∃i v,GS w w' lo g lb bs i (allL bs (bs.length+1) 0 []).2.1 (allL bs (bs.length+1) 0 []).1 v ∧
    ((e=.returned (.tuple #[])∧(allL bs (bs.length+1) 0 []).2.2=0)∨(e=.panicked [Qke g (allL bs (bs.length+1) 0 []).2.2]∧(allL bs (bs.length+1) 0 []).2.2≠0)):=by
 obtain⟨R,hR⟩:∃R,R=allL bs (bs.length+1) 0 []:=⟨_,rfl⟩
 rw[← hR]
 have HR:=QA hR
 have HS:=QA hS
 have HB:=QA hb
 have HL:=QA hl
 have hl2:bs.length≤140737488355328:=by omega
 clear hR hS hb hl
 go_enter Tryz.func138,Tryz.ntmps138
 go_wp2_with fail
 go_loopw [13] (fun v13 wr=>∃(i f:Nat) (acc:List Pr) (v:Value),Aside0 (i≤bs.length∧bs.length<i+f∧acc.length≤i)∧Aside0 (R=allL bs f i acc)∧Aside0 (GS w wr lo g lb bs (i:Int) (i:Int) acc v))
  (fun _ wr=>bs.length-posOf wr g)
 case atStart=>exact⟨0,bs.length+1,[],_,⟨by simp⟩,HR,HS⟩
 case round =>
  obtain⟨i,f,acc,v,HI,HA,HG⟩:=hrel
  clear HS
  obtain⟨A,c,hv⟩:=Kd.R_slice HG.out.rows
  subst hv
  by_cases hlt:i<bs.length
  ·have hgt:decide ((bs.length:Int)-(i:Int) > 0)=true:=decide_eq_true (by omega)
   have ha:=HA.out
   obtain⟨f',hf'⟩:∃f',f=f'+1:=⟨f-1,by have:=HI.out;omega⟩
   subst hf'
   unfold allL at ha
   rw[if_pos hlt]at ha
   have hcl:=HG.out.l
   have hcn:=HG.out.n
   have x0:wr.cell? ⟨lb,0,none⟩=some (.slice A acc.length c):=(Qct hcl 0).trans rfl
   cases h1:oneL bs i with
   | error q =>
    obtain⟨er,pl⟩:=q
    rw[h1]at ha
    dsimp only at ha
    have HA2:=QA ha
    have H1:=QA h1
    clear ha h1 HA hcl hcn
    go_upto_region 1 with(go_at_call 139;refine(Qkl lo g bs i (by have:=HI.out.1;omega) hl2 _ HG.out.cur).mono ?_;rintro ee w1 ⟨rfl,hb1⟩;have HG1:=QA ((HG.out.below hb1).below (Qbx (Below.refl _ _)));have x1:w1.drew.cell? ⟨lb,0,none⟩=some (.slice A acc.length c):=(Qct HG1.out.l 0).trans rfl;clear hb1)
    refine Qey (n:=6) (S:=fun w'=>w'.cell? ⟨lb,0,none⟩=some (.slice A acc.length c)) (ds:=[]) #[false,false,false,false,false,false] qq_5 rfl rfl x1 (fun hHeld=>?_)
    refine Qfb (i:=1) (N:=some 8) (v:=?_) (a':=?_) #[false,true,false,false,false,false] rfl rfl qq_5 (fun _ _ _ h=>h) (Or.inl ⟨by rfl,?_⟩) ?_ ?_
    rotate_left
    ·intro w'
     go_simp
     with_reducible rfl
    rotate_left
    ·simp only[Act.put,List.setIfInBounds_toArray,List.set_cons_zero,List.set_cons_succ,Qfm,Qfn]
     rfl
    refine Qfa (i:=0) (N:=some 7) (v:=?_) (a':=?_) #[true,true,false,false,false,false] rfl rfl qq_5 (fun _ _ _ h=>h) (Or.inl ⟨by rfl,?_⟩) hHeld ?_ ?_
    rotate_left
    ·rintro w' s0
     go_simp
     with_reducible rfl
    rotate_left
    ·simp only[Act.put,List.setIfInBounds_toArray,List.set_cons_zero,List.set_cons_succ,Qfm,Qfn]
     rfl
    refine one_ (i:=2) (N:=some 9) #[true,true,true,false,false,false] rfl rfl qq_5 (by decide) (fun K hK=>?_)
    refine goesP_ Tryz.func140 qq_5 rfl #[.pointer (some ⟨g,0,none⟩)] (by rfl) rfl qq_8 ?_
    refine(Qne lo g bs i HB.out HL.out HI.out.1 hlg _ (Nat.le_trans HG1.out.size HG1.out.grow) HG1.out.cur).mono ?_
    rw[H1.out]
    rintro ee w2 ⟨hB2,hne,rfl,j,hI2⟩
    have HG2:=QA (HG1.out.go hI2 hB2)
    refine⟨_,rfl,?_⟩
    exact⟨rfl,(show ∃(i':Int) (v':Value),GS w w2 lo g lb bs i' R.2.1 R.1 v'∧((Ending.panicked [Qke g er]=Ending.returned (.tuple #[])∧R.2.2=0)∨(Ending.panicked [Qke g er]=Ending.panicked [Qke g R.2.2]∧R.2.2≠0)) from⟨j,.slice A acc.length c,by rw[HA2.out];exact HG2.out,.inr ⟨by rw[HA2.out],by rw[HA2.out];exact hne⟩⟩)⟩
   | ok q =>
    obtain⟨p,j⟩:=q
    rw[h1]at ha
    dsimp only at ha
    have HA2:=QA ha
    have H1:=QA h1
    clear ha h1 HA hcl hcn
    go_upto_region 1 with(go_at_call 139;refine(Qkl lo g bs i (by have:=HI.out.1;omega) hl2 _ HG.out.cur).mono ?_;rintro ee w1 ⟨rfl,hb1⟩;have HG1:=QA ((HG.out.below hb1).below (Qbx (Below.refl _ _)));have x1:w1.drew.cell? ⟨lb,0,none⟩=some (.slice A acc.length c):=(Qct HG1.out.l 0).trans rfl;clear hb1)
    go_region_law (first
     |(go_simp;go_at_call 140;refine(Qne lo g bs i HB.out HL.out HI.out.1 hlg _ (Nat.le_trans HG1.out.size HG1.out.grow) HG1.out.cur).mono ?_;rw[H1.out];rintro ee w2 ⟨hB2,rfl,hI2,hij,hjl⟩;have HG2:=QA (HG1.out.go hI2 hB2);have HJ2:=QA (And.intro hij hjl);have x2:w2.cell? ⟨lb,0,none⟩=some (.slice A acc.length c):=(Qct HG2.out.l 0).trans rfl;have x5:(w2.alloc (.cells #[.string p.f0,.string p.f1] 207)).cell? ⟨lb,0,none⟩=some (.slice A acc.length c):=Qca (Qbw (Below.refl w2.heap.size _) _) x2;clear hB2 hI2 hij hjl)
     |(refine Kd.R_append_step k207 (w0:=w2) w.heap.size (by rfl) (.tmp 7) (.tmp 10) 149 207 (.agg #[.string (⟨#[]⟩:ByteArray),.string (⟨#[]⟩:ByteArray)]) 32 rfl Tryz.underlying149 Qng rfl (by decide) (by omega) (.slice A acc.length c) acc p [.string p.f0,.string p.f1] (fun _=>True) (fun _=>False) rfl ?ax ?aP (fun _ hk=>hk.elim) (fun _ _=>trivial) ?aO (Below.refl _ _) ?aS ?aL ?_;(case ax=>rfl);(case aP=>exact Qhw _ _ _ p);(case aO=>exact HG2.out.rows);(case aS=>exact HG2.out.grow);(case aL=>have:=HI.out;have:=HL.out;omega);intro v3 w3 HR3 hb3 hg3 hat3;obtain⟨A3,c3,hv3⟩:=Kd.R_slice HR3;subst hv3;have HP3:=HG2.out.app HR3 hb3 hg3 hlg;rw[show(acc++[p]).length=acc.length+1 from List.length_append]at HP3;have x3:w3.frozen? ⟨lb,0,none⟩=false:=Qcu HP3.1 0;have x4:w3.cell? ⟨lb,0,none⟩=some (.slice A acc.length c):=(Qct HP3.1 0).trans rfl;have HG3:=QA HP3.2;clear HR3 hb3 hg3 hat3 HP3))
    all_goals
     obtain⟨W4,hW4⟩:∃W4,W4=w3.setCell ⟨lb,0,none⟩ (.slice A3 (acc.length+1) c3):=⟨_,rfl⟩
     rw[← hW4]at HG3
     show Exit.then _ _ Exit.normal _ (w3.setCell ⟨lb,0,none⟩ (.slice A3 (acc.length+1) c3))
     rw[← hW4]
     clear hW4 x2 x3 x4 x5
     go_wp2_with (go_at_call 141;refine(cur_At lo g bs (j:Int) _ HG3.out.cur).mono ?_;rintro ee w5 ⟨rfl,hb5⟩;have HG5:=QA (HG3.out.below hb5);have y1:w5.cell? ⟨lb+1,0,none⟩=some (.int .i64 (i:Int)):=(Qct HG5.out.n 0).trans rfl;have y2:w5.frozen? ⟨lb+1,0,none⟩=false:=Qcu HG5.out.n 0;clear hb5)
     go_roundw
     case rel=>exact⟨j,f',acc++[p],_,⟨by have:=HJ2.out;have:=HI.out;rw[List.length_append];simp only[List.length_singleton];omega⟩,HA2,⟨HG5.out.num hlg _⟩⟩
     case measure =>
      rw[Qnf (HG5.out.num hlg (j:Int)).cur,Qnf HG.out.cur]
      have:=HJ2.out
      omega
  ·have hgt:decide ((bs.length:Int)-(i:Int) > 0)=false:=decide_eq_false (by omega)
   have ha:=HA.out
   obtain⟨f',hf'⟩:∃f',f=f'+1:=⟨f-1,by have:=HI.out;omega⟩
   subst hf'
   unfold allL at ha
   rw[if_neg hlt]at ha
   have HA2:=QA ha
   clear ha HA
   go_wp2_with (go_at_call 139;refine(Qkl lo g bs i (by have:=HI.out.1;omega) hl2 _ HG.out.cur).mono ?_;rintro ee w1 ⟨rfl,hb1⟩;have HG1:=QA (HG.out.below hb1);clear hb1)
   go_end0
   rw[HA2.out]
   exact⟨_,_,HG1.out,.inl ⟨rfl,rfl⟩⟩
theorem Qni(as_:Array Value)(W:World):(callFunc 138 as_).run Tryz.prog W=.ok (.enter 138 as_) W:=by
 simp[callFunc,Tryz.func138,Tryz.f138]
def Qnj(l0:List Int)(lb:Nat)(w:World)(er:Int)(w':World):Prop :=
 Below lb w w'∧er=(allL l0 (l0.length+1) 0 []).2.2∧∃v,w'.heap[lb]? = some (.cells #[v] 149 (0,0))∧RP w' lb v (allL l0 (l0.length+1) 0 []).1∧w'.heap[lb+1]? = some (.cells #[.int .i64 (allL l0 (l0.length+1) 0 []).2.1] 3 (0,0))
theorem Qnk(A0:Option Addr)(c0:Nat)(l0:List Int)(lb:Nat)(w:World)(hb:CodecP.Bytes l0)(hl:l0.length≤100000000)(hr0:Kd.C (Kd.int .u8) w A0 l0.length l0)
  (hkl:w.heap[lb]? = some (.cells #[.slice none 0 0] 149 (0,0))) (hkn:w.heap[lb+1]? = some (.cells #[.int .i64 0] 3 (0,0))) :
  Calls Tryz.prog 137 #[.slice A0 l0.length c0,.func (.func 138) #[] #[.pointer (some ⟨lb,0,none⟩),.pointer (some ⟨lb+1,0,none⟩)]] w fun e w'=>∃er i,e=.returned (.tuple #[.int .i64 i,.int .i64 er])∧Qnj l0 lb w er w':=by
 have hlt:=Qcs hkn
 refine Qks 138 #[.pointer (some ⟨lb,0,none⟩),.pointer (some ⟨lb+1,0,none⟩)] A0 c0 l0 w hr0 (by omega) Qni (fun er _ W'=>Qnj l0 lb w er W') ?_ ?_
 ·rintro er i W W' ⟨h1,h2,v,h3,h4,h5⟩ hB hT
  exact⟨h1.trans (Qia hB (by omega)),h2,v,(hB.block lb (by omega)).trans h3,h4.ty hT,(hB.block (lb+1) hlt).trans h5⟩
 ·intro W g hg hB hI
  have hS:GS W W w.heap.size g lb l0 0 0 [] (.slice none 0 0):=⟨hI,Below.refl _ _,fun k cs t _ h _ _=>h,(hB.block lb (by omega)).trans hkl,Kd.R_nil _ _ _ _ _,(hB.block (lb+1) hlt).trans hkn,hlt,hB.size⟩
  refine(Qnh w.heap.size g lb l0 hb hl hg W hS).mono ?_
  rintro e W' ⟨i,v,hG,h⟩
  have hP:Qnj l0 lb w (allL l0 (l0.length+1) 0 []).2.2 W':=⟨(Qia hB (by omega)).trans hG.low,rfl,v,hG.l,Kd.R_lower hG.rows (by have:=hB.size;omega),hG.n⟩
  refine⟨i,hG.cur,hG.tl,?_⟩
  rcases h with⟨h1,h2⟩ |⟨h1,h2⟩
  ·rw[h2]at hP
   exact .inl ⟨h1,hP⟩
  ·exact .inr ⟨_,h1,hP⟩
theorem Qnl(tmps:Array Value)(W:World)(lb:Nat)(v:Value)(n er:Int)(h2:tmps[2]? = some (.pointer (some ⟨lb,0,none⟩)))(h3:tmps[3]? = some (.pointer (some ⟨lb+1,0,none⟩)))(h4:tmps[4]? = some (.int .i64 er))
  (c2:W.heap[lb]? = some (.cells #[v] 149 (0,0))) (c3:W.heap[lb+1]? = some (.cells #[.int .i64 n] 3 (0,0))) :
  (results Tryz.f86 tmps).run Tryz.prog W=.ok (.tuple #[v,.int .i64 n,.int .i64 er]) W:=by
 have hr:Tryz.f86.results=#[.cell 2 149,.cell 3 3,.tmp 4]:=rfl
 have d2:W.cell? ⟨lb,0,none⟩=some v:=(Qct c2 0).trans rfl
 have d3:W.cell? ⟨lb+1,0,none⟩=some (.int .i64 n):=(Qct c3 0).trans rfl
 simp[results,hr,h2,h3,h4,go_sem,loadVar,d2,d3,c2,c3]
theorem Qan.calls(A0:Option Addr)(c0:Nat)(l0:List Int)(r1:List Pr)(r2 r3:Int)(w:World)(hr0:Kd.C (Kd.int .u8) w A0 l0.length l0)(hc0:l0.length≤c0)(h:Qan.f l0=some (r1,r2,r3)) :
  Calls Tryz.prog 86 #[.slice A0 l0.length c0] w fun e w'=>∃v0_:Value,e=.returned (.tuple #[v0_,.int .i64 r2,.int .i64 r3])∧Kd.R k207 207 w' w.heap.size (fun _=>True) v0_ r1∧Below w.heap.size w w':=by
 unfold Qan.f at h
 by_cases hg:l0.all (fun x=>decide (0≤x∧x<256))=true∧l0.length≤100000000
 ·rw[if_pos hg,Option.some.injEq]at h
  obtain⟨z0,hz0⟩:∃z:Obj,z=.cells #[.slice none 0 0] 149 (0,0):=⟨_,rfl⟩
  obtain⟨z1,hz1⟩:∃z:Obj,z=.cells #[.int .i64 0] 3 (0,0):=⟨_,rfl⟩
  have b0:Below w.heap.size w ((w.alloc z0).alloc z1):=Qbw (Qbw (Below.refl _ _) _) _
  have k0:=Qdd (Qdh w z0) z1
  have k1:=Qdh (w.alloc z0) z1
  rw[World.size_alloc]at k1
  subst hz0 hz1
  have hC:=Qnk A0 c0 l0 w.heap.size _ (bytes_all.1 hg.1) hg.2 (Kd.C_below hr0 b0) k0 k1
  unfold Qnj at hC
  rw[h]at hC
  have RUN:=QA hC
  have B0:=QA b0
  have hmf:∀(fn:Fn) (first cap:Array Value) (w:World),(Instr.makeFunc fn first cap).run Tryz.prog w=.ok (.func fn first cap) w:=fun _ _ _ _=>rfl
  clear hg hr0 b0 k0 k1 hC h
  go_enter Tryz.func86,Tryz.ntmps86
  go_upto_region 2 with(go_at_call 137;refine RUN.out.mono ?_;rintro ee w3 ⟨er,i,rfl,hb3,rfl,v,hk0,hR,hk1⟩)
  have HB3:=QA (B0.out.trans hb3)
  have HR3:=QA hR
  have HK0:=QA hk0
  have HK1:=QA hk1
  have m0:=Qcq (w:=w3.drew) hk0 0 v
  have m1:=Qcr (w:=w3.drew) hk1 (p:=⟨w.heap.size,0,none⟩) (show w.heap.size+1≠w.heap.size by omega) v
  have n0:=Qcr m0 (p:=⟨w.heap.size+1,0,none⟩) (show w.heap.size≠w.heap.size+1 by omega) (.int .i64 r2)
  have n1:=Qcq m1 0 (.int .i64 r2)
  have x0:w3.drew.cell? ⟨w.heap.size,0,none⟩=some v:=(Qct hk0 0).trans rfl
  have x1:w3.drew.cell? ⟨w.heap.size+1,0,none⟩=some (.int .i64 r2):=(Qct hk1 0).trans rfl
  have x2:w3.drew.frozen? ⟨w.heap.size,0,none⟩=false:=Qcu (w:=w3.drew) hk0 0
  have x3:(w3.drew.setCell ⟨w.heap.size,0,none⟩ v).cell? ⟨w.heap.size+1,0,none⟩=some (.int .i64 r2):=(Qct m1 0).trans rfl
  have x4:(w3.drew.setCell ⟨w.heap.size,0,none⟩ v).frozen? ⟨w.heap.size+1,0,none⟩=false:=Qcu m1 0
  have x5:w3.cell? ⟨w.heap.size,0,none⟩=some v:=x0
  have x6:w3.cell? ⟨w.heap.size+1,0,none⟩=some (.int .i64 r2):=x1
  have x7:w3.frozen? ⟨w.heap.size,0,none⟩=false:=x2
  have x8:w3.frozen? ⟨w.heap.size+1,0,none⟩=false:=Qcu hk1 0
  obtain⟨A3,c3,hv3⟩:=Kd.R_slice hR
  subst hv3
  have HN0:=QA n0
  have HN1:=QA n1
  clear hk0 hk1 hR m0 m1 n0 n1
  go_region
  all_goals
   go_wp2
   refine bodyPost_ret (Qnl _ _ w.heap.size _ r2 _ rfl rfl rfl HN0.out HN1.out) rfl ?_
   refine⟨_,rfl,?_,Qhz (Qhz (HB3.out.trans (Qia (Qbx (Below.refl _ _)) HB3.out.size)) (Nat.le_refl _)) (Nat.le_succ _)⟩
   exact Kd.R_set (Kd.R_set (w:=w3.drew) HR3.out HK0.out (by decide) 0 _) (Qcr (w:=w3.drew) HK1.out (p:=⟨w.heap.size,0,none⟩) (show w.heap.size+1≠w.heap.size by omega) _) (by decide) 0 _
 ·rw[if_neg hg]at h;cases h
end Go.Proofs.YtnnofopfbeklbaaGreat.C
end
section
namespace Go.Proofs.YtnnofopfbeklbaaGreat.C
open Go.RowKit Go.Proofs.YtnnofopfbeklbaaGreatW.PrintWords Go.Proofs.YtnnofopfbeklbaaGreatW.PrintLast Go.Proofs.YtnnofopfbeklbaaGreatW.PrintMore
open Go.Sort
attribute [local go_sem high] eqA117
def encE(x:Ent):List Value:=[.int .u64 x.f0,.int .u32 x.f1]
def Qnm(l:List Ent):List Value:=l.flatMap encE
abbrev RE(W:World)(b:Nat)(v:Value)(l:List Ent):Prop:=Kd.R k117 117 W b (fun _=>True) v l
theorem Qnn(l:List Ent):(Qnm l).length=l.length*2:=by
 induction l with
 | nil=>rfl
 | cons a l ih=>simp only[Qnm,List.flatMap_cons,List.length_append,encE,List.length_cons,List.length_nil]at ih ⊢;omega
theorem Qno:∀(l:List Ent) (j:Nat) (h:j<l.length),((Qnm l).drop (j*2)).take 2=encE l[j]
 | a :: l,0,_=>rfl
 | a :: l,j+1,h=>by
  have:=Qno l j (by simpa using h)
  rw[show(j+1)*2=j*2+2 by omega]
  exact this
theorem Qnp(l:List Ent)(j:Nat):(Qnm l)[2*j]? = l[j]?.map (fun x=>Value.int .u64 x.f0)∧(Qnm l)[2*j+1]? = l[j]?.map (fun x=>Value.int .u32 x.f1):=by
 induction l generalizing j with
 | nil=>simp[Qnm]
 | cons a l ih =>
  cases j with
  | zero=>simp[Qnm,encE]
  | succ j =>
   have:=ih j
   rw[show 2*(j+1)=2*j+2 by omega]
   exact this
theorem repsE{R:Ent→List Value→Prop}(hR:∀x,R x (encE x))(l:List Ent):Reps R 2 l (Qnm l):=by
 refine⟨Qnn l,fun j p hj=>?_⟩
 obtain⟨h,rfl⟩:=List.getElem?_eq_some_iff.1 hj
 rw[Qno l j h]
 exact hR _
theorem Qnq{R:Ent→List Value→Prop}(hR:∀x c,R x c→c=encE x){l:List Ent}{cs:List Value}(h:Reps R 2 l cs):cs=Qnm l:=by
 have hl:cs.length=l.length*2:=h.1
 apply List.ext_getElem?
 intro t
 by_cases ht:t<l.length*2
 ·have hj:t/2<l.length:=by omega
  have h1:=hR _ _ (h.2 (t/2) _ (List.getElem?_eq_getElem hj))
  have h2:=Qno l (t/2) hj
  rw[← h1]at h2
  have e:∀xs:List Value,((xs.drop (t/2*2)).take 2)[t%2]? = xs[t]?:=by
   intro xs
   rw[List.getElem?_take,if_pos (Nat.mod_lt _ (by omega)),List.getElem?_drop]
   congr 1
   omega
  rw[← e cs,← e (Qnm l),h2]
 ·rw[List.getElem?_eq_none (by omega),List.getElem?_eq_none (by rw[Qnn];omega)]
theorem RE.of_own{W:World}{b:Nat}{v:Value}{l:List Ent}(h:W.ownsRow b 117 2 v l.length (Qnm l)):RE W b v l :=
 ⟨fun _ _=>trivial,Qnm l,h,repsE (fun x=>Qhs _ _ _ x) l⟩
theorem RE.own{W:World}{b:Nat}{v:Value}{l:List Ent}(h:RE W b v l):W.ownsRow b 117 2 v l.length (Qnm l):=by
 obtain⟨_,inner,ho,hr⟩:=h
 have e:=Qnq (fun x c hM=>Qhr hM) hr
 rw[← e]
 exact ho
def Qnr(l:List Ent):List Ent:=l.mergeSort (fun x y=>!(ltOf cfE) y x)
theorem Qns(l:List Ent):(Qnr l).length=l.length:=List.length_mergeSort _
theorem Qnt(x y:Ent):ltOf cfE x y=(decide (x.f0<y.f0) ||(decide (x.f0=y.f0) && decide (x.f1<y.f1))):=by
 unfold ltOf cfE
 by_cases h1:x.f0<y.f0
 ·simp[h1]
 ·by_cases h2:y.f0<x.f0
  ·have:x.f0≠y.f0:=by omega
   simp[h1,h2,this]
  ·have:x.f0=y.f0:=by omega
   by_cases h3:x.f1<y.f1
   ·simp[h1,h2,h3,this]
   ·by_cases h4:y.f1<x.f1<;>simp[h1,h2,h3,h4,this]
theorem swoE:SWO (ltOf cfE) where
 irrefl x:=by rw[Qnt];simp
 trans x y z h1 h2:=by rw[Qnt]at *;simp at *;omega
 ntrans x y z h1 h2:=by rw[Qnt]at *;simp at *;omega
theorem totE(x y:Ent)(h1:ltOf cfE x y=false)(h2:ltOf cfE y x=false):x=y:=by
 rw[Qnt]at h1 h2
 simp at h1 h2
 cases x;cases y
 simp_all
 omega
instance:Inhabited Ent:=⟨⟨0,0⟩⟩
theorem Qnu(blk off size:Nat)(w:World):CmpLays Tryz.prog 118 #[] encE 2 cfE blk off size w :=
 fun _ _ _ _ x y=>cmp_gr x y _
theorem Qnv(l:List Ent):(flatK encE 2 l.toArray).toList=Qnm l:=by
 apply List.ext_getElem?
 intro t
 have hs:(flatK encE 2 l.toArray).size=l.length*2:=by simp
 by_cases ht:t<l.length*2
 ·rw[Array.getElem?_toList,Array.getElem?_eq_getElem (by rw[hs];exact ht)]
  have h1:=get_flatK encE 2 l.toArray t (by simpa using ht)
  rw[getElem!_pos (flatK encE 2 l.toArray) t (by rw[hs];exact ht)]at h1
  have hj:t/2<l.length:=by omega
  have hx:l.toArray[t/2]! = l[t/2]:=by rw[getElem!_pos l.toArray (t/2) (by simpa using hj)];simp
  rw[h1,hx]
  have h2:=Qnp l (t/2)
  rw[List.getElem?_eq_getElem hj]at h2
  rcases Nat.mod_two_eq_zero_or_one t with h0|h0
  ·have h3:=h2.1
   rw[show 2*(t/2)=t by omega]at h3
   rw[h0,h3]
   rfl
  ·have h3:=h2.2
   rw[show 2*(t/2)+1=t by omega]at h3
   rw[h0,h3]
   rfl
 ·rw[List.getElem?_eq_none qq_13,List.getElem?_eq_none (by rw[Qnn];omega)]
theorem Qnw{W:World}{b g cap:Nat}{l:List Ent}(h:W.ownsRow b 117 2 (.slice (some ⟨g,0,none⟩) l.length cap) l.length (Qnm l)):HoldsK encE 2 W g 0 l.toArray:=by
 rcases h.2 with⟨hn,_⟩ |⟨g',cap',cur,he,hb,hh,h1,h2,h3,h4⟩
 ·cases hn
 cases he
 intro j hj
 have hj':j<l.length*2:=by simpa using hj
 refine⟨?_,by simp[World.frozen?,hh]⟩
 have h5:(cur.toList.take (l.length*2))[j]? = (Qnm l)[j]?:=by rw[h4]
 rw[List.getElem?_take_of_lt hj']at h5
 simp only[World.cell?,hh,Nat.zero_add]
 simp only[Option.isSome_none,Bool.false_eq_true,if_false]
 rw[← Array.getElem?_toList,h5,← Qnv l,Array.getElem?_toList,Array.getElem?_eq_getElem hj,getElem!_pos (flatK encE 2 l.toArray) j hj]
 rfl
theorem heapE{w:World}{g n:Nat}{os:Array Obj}{cur:Array Value}{e:TypeId}{fr:Nat × Nat}(d:Array Ent)(hb:w.heap[g]? = some (.cells cur e fr)) :
  (sortWorldK encE 2 w g 0 n d os).heap[g]? = some (.cells (putCells id 0 (flatK encE 2 d) cur) e fr):=by
 have hg:g<w.heap.size:=(Array.getElem?_eq_some_iff.1 hb).1
 unfold sortWorldK putRowK
 rw[heap_grow_old _ _ (by simpa using hg)]
 simp[putRow,mapBlock,Sort.ahead,Array.getElem?_modify,hb,onCells]
theorem grownE{w:World}{g n:Nat}{os:Array Obj}(d:Array Ent):w.grownBy (sortWorldK encE 2 w g 0 n d os) (some g):=by
 unfold sortWorldK putRowK
 refine⟨rfl,rfl,rfl,by simp,fun k hk hne=>?_⟩
 rw[heap_grow_old _ _ (by simpa using hk)]
 have:g≠k:=fun e=>hne (by rw[e])
 simp[putRow,mapBlock,Sort.ahead,Array.getElem?_modify,this]
theorem takeE(cur:Array Value)(l:List Ent)(h:l.length*2≤cur.size):(putCells id 0 (flatK encE 2 l.toArray) cur).toList.take (l.length*2)=Qnm l:=by
 apply List.ext_getElem?
 intro j
 by_cases hj:j<l.length*2
 ·rw[List.getElem?_take_of_lt hj,Array.getElem?_toList,← Qnv l,Array.getElem?_toList]
  have hs:(flatK encE 2 l.toArray).size=l.length*2:=by simp
  rw[Array.getElem?_eq_getElem (xs:=flatK encE 2 l.toArray) (by rw[hs];exact hj)]
  simp only[putCells,Array.getElem?_mapIdx,Nat.zero_le,true_and,Nat.zero_add,hs,hj,if_true,Nat.sub_zero,id]
  rw[Array.getElem?_eq_getElem (xs:=cur) (by omega),getElem!_pos (flatK encE 2 l.toArray) j (by rw[hs];exact hj)]
  rfl
 ·rw[List.getElem?_take_eq_none (by omega),List.getElem?_eq_none (by rw[Qnn];omega)]
theorem Qnx{w:World}{b g cap n:Nat}{os:Array Obj}{l m:List Ent}(hl:m.length=l.length)(h:w.ownsRow b 117 2 (.slice (some ⟨g,0,none⟩) l.length cap) l.length (Qnm l)) :
  (sortWorldK encE 2 w g 0 n m.toArray os).ownsRow b 117 2 (.slice (some ⟨g,0,none⟩) l.length cap) l.length (Qnm m):=by
 rcases h.2 with⟨hn,_⟩ |⟨g',cap',cur,he,hb,hh,h1,h2,h3,h4⟩
 ·cases hn
 cases he
 exact⟨by rw[Qnn,hl],.inr ⟨g,cap,_,rfl,hb,heapE _ hh,h1,h2,by simp[putCells,h3],by rw[← hl];exact takeE cur m (by omega)⟩⟩
theorem Qny(b:Nat)(v:Value)(l:List Ent)(w:World)(hR:RE w b v l)(hl:l.length≤1099511627776) :
  Calls Tryz.prog 116 #[v] w fun e w'=>∃v1,e=.returned v1∧RE w' w.heap.size v1 l∧Below w.heap.size w w':=by
 have ho:=RE.own hR
 rcases ho.2 with⟨rfl,hn⟩ |⟨g,cap,cur,rfl,hb,hh,h1,h2,h3,h4⟩
 ·have hcon:=AnyE.slices_Clone_nil Tryz.cloneEnt 0 0 w
  refine hcon.mono fun e w' ⟨he,hw⟩=>⟨_,he,?_,?_⟩
  ·have h0:l=[]:=List.eq_nil_of_length_eq_zero (by omega)
   rw[h0]
   exact Kd.R_nil _ _ _ _ _
  ·rw[hw];exact Below.refl _ _
 ·obtain⟨i0,hi,hzz⟩:=Option.map_eq_some_iff.1 Qme
  simp only[Prod.mk.injEq]at hzz
  obtain⟨hz0,hz1,hz2⟩:=hzz
  have hcon:=AnyE.slices_Clone Tryz.cloneEnt i0 _ 2 16 hi hz0 hz1 hz2 rfl (by omega) Tryz.sizeOf117 g 0 l.length cap (Qnm l) w (Qnn l) (by unfold maxLen;omega) (by omega) (fun j u hj=>by
    have hj':j<l.length*2:=by
     have:=(List.getElem?_eq_some_iff.1 hj).1
     rw[Qnn]at this
     exact this
    have h5:(cur.toList.take (l.length*2))[j]? = (Qnm l)[j]?:=by rw[h4]
    rw[List.getElem?_take_of_lt hj']at h5
    simp only[World.cell?,hh,Nat.zero_add]
    simp only[Option.isSome_none,Bool.false_eq_true,if_false]
    rw[← Array.getElem?_toList,h5,hj]) (fun u hu=>by
    obtain⟨x,_,hx⟩:=List.mem_flatMap.1 hu
    simp[encE]at hx
    rcases hx with rfl|rfl<;>rfl)
  exact hcon.mono fun e w' ⟨v',he,hown,_,hb'⟩=>⟨v',he,RE.of_own hown,hb'⟩
def Apart(l:List Ent):Prop:=∀i:Nat,i+1<l.length→(Qht l ((i+1:Nat):Int)).f0≠(Qht l (i:Int)).f0∨(Qht l ((i+1:Nat):Int)).f1≠(Qht l (i:Int)).f1
theorem Qnz(A:Option Addr)(n c:Nat)(l:List Ent)(w:World)(hn:n=l.length)(hC:Kd.C k117 w A n l)(hA:Apart l)(hl:l.length≤1099511627776) :
  Calls Tryz.prog 119 #[.slice A n c] w fun e w'=>e=.returned (.slice A n c)∧Drawn0 w w':=by
 have hu:=Tryz.underlying117
 have HN:=QA hn
 have HL:n≤1099511627776:=by omega
 have HC:=QA hC
 have HA:=QA hA
 clear hn hC hA hl
 by_cases h2:n<2
 ·have hb:decide ((n:Int)<2)=true:=decide_eq_true (by omega)
  go_enter Tryz.func119,Tryz.ntmps119
  go_wp2
  go_ret
  exact⟨rfl,Drawn0.refl _⟩
 ·have hb:decide ((n:Int)<2)=false:=decide_eq_false (by omega)
  go_enter Tryz.func119,Tryz.ntmps119
  go_wp2
  go_loopw [3] (fun i wr=>∃(k:Nat) (iv:Int),1≤k∧k≤n∧i=.int .i64 iv∧Aside0 (iv=(k:Int))∧Drawn0 w wr) (fun i _=>((n:Int)-intOf i).toNat)
  case atStart=>exact⟨1,1,by omega,by omega,rfl,⟨rfl⟩,Drawn0.refl _⟩
  case round =>
   obtain⟨k,iv,hk1,hkn,rfl,HI,⟨m1,rfl⟩⟩:=hrel
   by_cases hlt:k<n
   ·have h0:0≤iv:=by have:=HI.out;omega
    have h1:iv<(n:Int):=by have:=HI.out;omega
    obtain⟨jv,hjv⟩:∃jv,jv=iv-1:=⟨_,rfl⟩
    have hm:0≤jv:=by have:=HI.out;omega
    have hm1:jv<(n:Int):=by omega
    have hb1:decide (iv<(n:Int))=true:=decide_eq_true h1
    obtain⟨ad,rfl,x0,x1⟩:=Qhu HC.out iv h0 h1
    obtain⟨ad',e',y0,y1⟩:=Qhu HC.out jv hm hm1
    cases e'
    have hne:((Qht l iv).f0 == (Qht l jv).f0 && ((Qht l iv).f1 == (Qht l jv).f1))=false:=by
     have h:=HA.out (k-1) qq_11
     rw[show k-1+1=k by omega,show((k-1:Nat):Int)=jv by(have:=HI.out;omega),← HI.out]at h
     rcases h with h|h<;>simp[h]
    have hwr:IntKind.i64.wrap (iv-1)=jv:=by rw[IntWalk.i64_in _ (by omega)];exact hjv.symm
    have HJ:=QA hjv
    clear hjv
    go_wp2
    go_quiet (fail)
    clear hwr
    go_wp2
    go_roundw
    case rel=>exact⟨k+1,iv+1,by omega,by omega,by go_num,⟨by have:=HI.out;omega⟩,by repeat(first|exact Drawn0.refl _|apply Drawn0.step)⟩
    case measure=>simp[intOf];omega
   ·have hge:¬iv<(n:Int):=by have:=HI.out;omega
    have hb1:decide (iv<(n:Int))=false:=decide_eq_false hge
    go_wp2
    go_ret
    exact⟨rfl,by repeat(first|exact Drawn0.refl _|apply Drawn0.step)⟩
theorem Qoa(b:Nat)(v:Value)(l:List Ent)(w:World)(hR:RE w b v l)(hl:l.length≤1099511627776) :
  Calls Tryz.prog 117 #[v,.func (.func 118) #[] #[]] w fun e w'=>e=.returned (.tuple #[])∧RE w' b v (Qnr l)∧w.grownBy w' v.ownBlock:=by
 have ho:=RE.own hR
 rcases ho.2 with⟨rfl,hn⟩ |⟨g,cap,cur,rfl,hb,hh,h1,h2,h3,h4⟩
 ·have hcon:=AnyF.slices_SortFunc_none (P:=Tryz.prog) (ρ:=Tryz.sortEnt_ren) { Tryz.sortEnt with } none 0 (.func (.func 118) #[] #[]) w
  refine hcon.mono fun e w' ⟨he,hw⟩=>⟨he,?_,?_⟩
  ·have h0:l=[]:=List.eq_nil_of_length_eq_zero (by omega)
   rw[h0,show Qnr []=[] from List.eq_nil_of_length_eq_zero (Qns [])]
   exact Kd.R_nil _ _ _ _ _
  ·rw[hw];exact World.grownBy.refl w _
 ·have eg:∀args w,(callFunc 118 args).run Tryz.prog w=.ok (.enter 118 args) w:=enters_of Tryz.func118 qq_5 rfl
  have hcon:=AnyQ.slices_SortFunc_total Tryz.sortEnt 2 Tryz.isAgg117 Tryz.sizeOf117 encE (fun _=>rfl) (fun x v hv=>by simp[encE]at hv;rcases hv with rfl|rfl<;>rfl) cfE swoE 118 #[] g 0 cap l.toArray w eg (Qnu g 0 l.toArray.size w) (Qnw ho) (Qcs hh) qq_13 totE
  refine hcon.mono fun e w' ⟨he,n,os,hw⟩=>⟨he,?_,?_⟩
  ·rw[hw]
   have hs:=Qnx (n:=n) (os:=os) (m:=Qnr l) (Qns l) ho
   rw[← Qns l]at hs
   have:=RE.of_own hs
   rw[Qns l]at this
   exact this
  ·rw[hw]
   exact grownE _
theorem Qob(l:List Ent):(Qnr l).Perm l:=List.mergeSort_perm _ _
theorem Qoc{l:List Ent}(h:l.Nodup):Apart (Qnr l):=by
 have hd:(Qnr l).Nodup:=(Qob l).nodup_iff.2 h
 intro i hi
 have e1:Qht (Qnr l) ((i+1:Nat):Int)=(Qnr l)[i+1]:=by simp[Qht,List.getElem?_eq_getElem hi]
 have e2:Qht (Qnr l) (i:Int)=(Qnr l)[i]:=by simp[Qht,List.getElem?_eq_getElem (show i<(Qnr l).length by omega)]
 rw[e1,e2]
 by_cases h0:(Qnr l)[i+1].f0=(Qnr l)[i].f0
 ·by_cases h1:(Qnr l)[i+1].f1=(Qnr l)[i].f1
  ·exfalso
   have he:(Qnr l)[i+1]=(Qnr l)[i]:=by
    generalize (Qnr l)[i+1]=x at *
    generalize (Qnr l)[i]=y at *
    cases x;cases y;simp_all
   have h2:=List.pairwise_iff_getElem.1 hd i (i+1) (by omega) hi (by omega)
   exact h2 he.symm
  ·exact .inr h1
 ·exact .inl h0
theorem Qod(b:Nat)(v:Value)(l:List Ent)(w:World)(hR:RE w b v l)(hd:l.Nodup)(hl:l.length≤1099511627776) :
  Calls Tryz.prog 68 #[v] w fun e w'=>∃v1,e=.returned v1∧RE w' w.heap.size v1 (Qnr l)∧Below w.heap.size w w':=by
 have HR:=QA hR
 have HD:=QA (Qoc hd)
 obtain⟨A,c,rfl⟩:=Kd.R_slice hR
 clear hR hd
 obtain⟨n,hn⟩:∃n,n=l.length:=⟨_,rfl⟩
 rw[← hn]at HR ⊢
 have HN:=QA hn
 clear hn
 go_enter Tryz.func68,Tryz.ntmps68
 go_wp2_with (first
  |(go_at_call 116;refine(Qny b _ l _ HR.out hl).mono ?_;rintro e w1 ⟨v1,rfl,hR1,hb1⟩;obtain⟨A1,c1,e1⟩:=Kd.R_slice hR1;rw[← HN.out]at e1;subst e1;have HR1:=QA hR1;clear hR1)
  |(go_at_call 117;refine(Qoa _ _ l _ HR1.out hl).mono ?_;rintro e w2 ⟨rfl,hR2,hg2⟩;have HR2:=QA hR2;have hB2:Below w.heap.size w w2:=(hb1.grown hg2 hb1.size (fun k hk=>Kd.R_base HR1.out k hk));clear hR2 hg2)
  |(go_at_call 119;refine(Qnz A1 n c1 (Qnr l) _ (by rw[Qns];exact HN.out) (by have h:=(Kd.R_reads' HR2.out).2.2;rw[Qns,← HN.out]at h;exact h) HD.out (by rw[Qns];exact hl)).mono ?_;rintro e w3 ⟨rfl,hd3⟩))
 go_ret
 refine⟨_,rfl,?_,hB2.trans (Qia hd3.below hB2.size)⟩
 exact Kd.R_below HR2.out hd3.below
end Go.Proofs.YtnnofopfbeklbaaGreat.C
end
