/- Merged texts. -/
import Derived.Test.YtnnofopfbeklbaaGreatML01
import Derived.Test.YtnnofopfbeklbaaGreatML02
set_option linter.unusedVariables false
set_option linter.unusedSimpArgs false
set_option maxHeartbeats 8000000
set_option maxRecDepth 100000
section
namespace Go.Proofs.YtnnofopfbeklbaaGreat.C
open Go.RowKit Go.Proofs.YtnnofopfbeklbaaGreatW.PrintWords Go.Proofs.YtnnofopfbeklbaaGreatW.PrintLast Go.Proofs.YtnnofopfbeklbaaGreatW.PrintMore
attribute [local go_sem] Qib Qic Qid Qie Qif Qig Qih Qii
mutual
def Qbc.j0:Nat→Int→Int→Bool→ByteArray→Int→Int→Option (ByteArray × Int × Int × ByteArray)
 | 0,_,_,_,_,_,_=>none
 | k+1,x1,x8,x23,x664000,x664001,x664002=>if x23=true then((Qaw.f x664000 x664001 x664002 3).bind fun bt669=>(Qbc.j1 k x1 x8 bt669.1 bt669.2.1 bt669.2.2))else(Qbc.j1 k x1 x8 x664000 x664001 x664002)
def Qbc.j1:Nat→Int→Int→ByteArray→Int→Int→Option (ByteArray × Int × Int × ByteArray)
 | 0,_,_,_,_,_=>none
 | k+1,x1,x8,x664000,x664001,x664002=>if x664002=0 then(Qbc.j2 k x8 (decide (x8<(IntKind.u64.wrap (mx 0 x1)))) x664000 x664001 x664002)else(Qbc.j2 k x8 false x664000 x664001 x664002)
def Qbc.j2:Nat→Int→Bool→ByteArray→Int→Int→Option (ByteArray × Int × Int × ByteArray)
 | 0,_,_,_,_,_=>none
 | k+1,x8,x35,x664000,x664001,x664002=>if x35=true then((Qaw.f x664000 x664001 x664002 4).bind fun bt672=>(if bt672.2.2=0 then((Qaz.f k bt672.1 bt672.2.1 bt672.2.2 (wrap64 (x8))).bind fun bt675=>(some (bt675.1,bt675.2.1,bt675.2.2.1,bt675.2.2.2)))else(some (bt672.1,bt672.2.1,bt672.2.2,(⟨#[]⟩:ByteArray)))))else(if x664002=0 then((Qaz.f k x664000 x664001 x664002 (wrap64 (x8))).bind fun bt679=>(some (bt679.1,bt679.2.1,bt679.2.2.1,bt679.2.2.2)))else(some (x664000,x664001,x664002,(⟨#[]⟩:ByteArray))))
end
def Qbc.f(k:Nat)(a0_0:ByteArray)(a0_1:Int)(a0_2:Int)(a1:Int)(a2:Int):Option (ByteArray × Int × Int × ByteArray):=(Qbb.f k a0_0 a0_1 a0_2).bind fun bt665=>(if bt665.2.2.1=0 then(Qbc.j0 k a1 bt665.2.2.2 (decide (bt665.2.2.2 > (IntKind.u64.wrap (mx 0 a2)))) bt665.1 bt665.2.1 bt665.2.2.1)else(Qbc.j0 k a1 bt665.2.2.2 false bt665.1 bt665.2.1 bt665.2.2.1))
theorem Qbc.calls (k:Nat) (y:ByteArray) (u:Int) (s:Int) (a1:Int) (a2:Int) (r1:ByteArray) (r2:Int) (r3:Int) (r4:ByteArray) (w:World) (h:Qbc.f k y u s a1 a2=some (r1,r2,r3,r4)) :
  Calls Tryz.prog 188 #[.agg #[.string y,.int .i64 u,.int .i64 s],.int .i64 a1,.int .i64 a2] w fun e w'=>e=.returned (.tuple #[.agg #[.string r1,.int .i64 r2,.int .i64 r3],.string r4])∧Below w.heap.size w w':=by
 have hu257:=Tryz.underlying257;have HB:=QA (Below.refl w.heap.size w);have H:((Qbb.f k y u s).bind fun bt665=>(if bt665.2.2.1=0 then(Qbc.j0 k a1 bt665.2.2.2 (decide (bt665.2.2.2 > (IntKind.u64.wrap (mx 0 a2)))) bt665.1 bt665.2.1 bt665.2.2.1)else(Qbc.j0 k a1 bt665.2.2.2 false bt665.1 bt665.2.1 bt665.2.2.1)))=some (r1,r2,r3,r4):=h;clear h;replace H:=Option.bind_eq_some_iff.mp H;obtain⟨⟨t,v,q,r⟩,bd,H⟩:=H;replace H:(if q=0 then(Qbc.j0 k a1 r (decide (r > (IntKind.u64.wrap (mx 0 a2)))) t v q)else(Qbc.j0 k a1 r false t v q))=some (r1,r2,r3,r4):=H;have A4:=QA bd;clear bd;have aQ:=QA H;clear H
 go_enter Tryz.func188,Tryz.ntmps188
 go_upto_region 2 with(first |((with_reducible refine Qft (N:=3) rfl ?_);(try(refine Qia (by rfl) ?_;dsimp only));refine qq_e 3 #[.string y,.int .i64 u,.int .i64 s] 257 ?_;intro p hg w6 hbox hb;have n_:=qn4 (Qfj qq_b hb) (hbox) (qq_s hg:w.heap.size≤p) (qq_s hg:w.heap.size≤p);clear HB;obtain⟨HB,b,bV,bW⟩:=n_;clear hb hbox hg) |((with_reducible refine Qft (N:=6) rfl ?_);(try(refine Qia (by rfl) ?_;dsimp only));refine qq_e 6 #[.string (⟨#[]⟩:ByteArray),.int .i64 0,.int .i64 0] 257 ?_;intro n hg w7 hbox hb;have n_:=qn7 (Qei (g:=p) (o:=.cells #[.string y,.int .i64 u,.int .i64 s] 257 (0,0)) qq_0 hb) (Qfj qq_b hb) (hbox) (qq_s hg:w.heap.size≤n) (qq_s hg:w.heap.size≤n) ((by rw[hg];exact Nat.ne_of_lt (Qdu (g:=p) (o:=.cells #[.string y,.int .i64 u,.int .i64 s] 257 (0,0)) qq_0):p≠n)) ((by rw[hg];exact Nat.ne_of_gt (Qdu (g:=p) (o:=.cells #[.string y,.int .i64 u,.int .i64 s] 257 (0,0)) qq_0):n≠p));clear b HB;obtain⟨b,HB,l,bX,bY,m,c⟩:=n_;clear hb hbox hg;have ct:=m.out;have cu:=c.out;obtain⟨ab,ac,ad⟩:=qc3 b.out;have av:=Qdw b.out) |((with_reducible refine Qij (f:=187) rfl ?_);refine Qgm (some 11) rfl rfl Tryz.func187 qq_7 rfl #[.agg #[.string y,.int .i64 u,.int .i64 s]] rfl qq_1 ?_;(with_reducible refine(Qbb.calls k y u s t v q r _ A4.out).mono ?_);rintro e cv ⟨rfl,hb⟩;refine⟨_,rfl,?_⟩;have n_:=qn3 (Qei (g:=p) (o:=.cells #[.string y,.int .i64 u,.int .i64 s] 257 (0,0)) qq_0 hb) (Qei (g:=n) (o:=.cells #[.string (⟨#[]⟩:ByteArray),.int .i64 0,.int .i64 0] 257 (0,0)) qq_0 hb) (Qfj qq_b hb);clear b l HB;obtain⟨b,l,HB⟩:=n_;(try clear hb);(try clear hb2);(try clear hk);(try clear hi);obtain⟨J,K,L⟩:=qc3 b.out;have ap:=Qdw b.out))
 (try simp only[Act.put,List.setIfInBounds_toArray,List.set_cons_zero,List.set_cons_succ])
 go_cut [23] (fun bM wc=>∃(kq:Nat) (Y:Bool),bM=.bool Y∧Aside0 (Qbc.j0 kq a1 r Y t v q=some (r1,r2,r3,r4))∧Aside0 (kq≤k)∧Aside0 (wc.heap[p]? = some (.cells #[.string t,.int .i64 v,.int .i64 q] 257 (0,0)))∧Aside0 (wc.heap[n]? = some (.cells #[.string (⟨#[]⟩:ByteArray),.int .i64 0,.int .i64 0] 257 (0,0)))∧Aside0 (Below w.heap.size w wc))
 case first =>
  have H:=aQ.out;clear aQ
  by_cases E:q=0
  ·rw[if_pos E]at H;have z:(q == 0)=true:=beq_iff_eq.mpr E;have Z:(q != 0)=false:=bne_eq_false_iff_eq.mpr E;clear E
   (first|rw[z] |(simp only[Qgo,Qgp];rw[z])|skip)
   obtain⟨ae,G⟩:∃j_:Int,(mx 0 a2)=j_:=⟨_,rfl⟩;replace H:(Qbc.j0 k a1 r (decide (r > (IntKind.u64.wrap (ae)))) t v q)=some (r1,r2,r3,r4):=by first |(rw[G]at H;exact H) |(simp only[G]at H ⊢;exact H)
   (try(have bN:0≤ae:=by(rw[← G];unfold mx;(repeat' split)<;>omega)))
   (try(have bO:0≤ae:=by omega))
   have bP:(if 0<a2 then a2 else 0)=ae:=G;have H':=QA H;clear H;have bZ:=m.out;have b0:=c.out;obtain⟨M,O,P⟩:=qc3 b.out;have aq:=Qdw b.out;go_wp2
   go_meet
   case rel=>exact⟨_,(decide (r > (IntKind.u64.wrap (ae)))),(by first|rfl |(simp;done) |(simp only[← G]<;>(first|rfl|simp)) |(simp[*];done)),H',⟨by first|omega|exact Nat.le_refl _⟩,⟨by(with_reducible repeat(first|apply Qeh|apply Qeg|apply Qef));refine Qfp (cs:=#[.string t,.int .i64 v,.int .i64 s]) ?_ 2 _ rfl;(with_reducible repeat(first|apply Qeh|apply Qeg|apply Qef));refine Qfp (cs:=#[.string t,.int .i64 u,.int .i64 s]) ?_ 1 _ rfl;(with_reducible repeat(first|apply Qeh|apply Qeg|apply Qef));refine Qfp (cs:=#[.string y,.int .i64 u,.int .i64 s]) ?_ 0 _ rfl;(with_reducible repeat(first|apply Qeh|apply Qeg|apply Qef));exact b.out⟩,⟨by(with_reducible repeat(first|apply Qeh|apply Qeg|apply Qef));refine Qdt ?_ c.out _;(with_reducible repeat(first|apply Qeh|apply Qeg|apply Qef));refine Qdt ?_ c.out _;(with_reducible repeat(first|apply Qeh|apply Qeg|apply Qef));refine Qdt ?_ c.out _;(with_reducible repeat(first|apply Qeh|apply Qeg|apply Qef));exact l.out⟩,⟨qq_b⟩⟩
  ·rw[if_neg E]at H;have z:(q == 0)=false:=beq_eq_false_iff_ne.mpr E;have Z:(q != 0)=true:=bne_iff_ne.mpr E
   (first|rw[z] |(simp only[Qgo,Qgp];rw[z])|skip)
   have H':=QA H;clear H;have b1:=m.out;have b2:=c.out;obtain⟨T,U,W⟩:=qc3 b.out;have ar:=Qdw b.out;go_wp2
   go_meet
   case rel=>exact⟨_,(false),qq_4,H',⟨by first|omega|exact Nat.le_refl _⟩,⟨by(with_reducible repeat(first|apply Qeh|apply Qeg|apply Qef));refine Qfp (cs:=#[.string t,.int .i64 v,.int .i64 s]) ?_ 2 _ rfl;(with_reducible repeat(first|apply Qeh|apply Qeg|apply Qef));refine Qfp (cs:=#[.string t,.int .i64 u,.int .i64 s]) ?_ 1 _ rfl;(with_reducible repeat(first|apply Qeh|apply Qeg|apply Qef));refine Qfp (cs:=#[.string y,.int .i64 u,.int .i64 s]) ?_ 0 _ rfl;(with_reducible repeat(first|apply Qeh|apply Qeg|apply Qef));exact b.out⟩,⟨by(with_reducible repeat(first|apply Qeh|apply Qeg|apply Qef));refine Qdt ?_ c.out _;(with_reducible repeat(first|apply Qeh|apply Qeg|apply Qef));refine Qdt ?_ c.out _;(with_reducible repeat(first|apply Qeh|apply Qeg|apply Qef));refine Qdt ?_ c.out _;(with_reducible repeat(first|apply Qeh|apply Qeg|apply Qef));exact l.out⟩,⟨qq_b⟩⟩
 case rest =>
  clear aQ
  try clear E
  try clear z
  try clear Z
  try clear J
  try clear K
  try clear L
  try clear M
  try clear O
  try clear P
  try clear T
  try clear U
  try clear W
  try clear ab
  try clear ac
  try clear ad
  try clear ap
  try clear aq
  try clear ar
  try clear av
  obtain⟨kq,Y,rfl,HA,HJ4,b,l,HB⟩:=hcut
  cases kq with
  | zero=>exact absurd HA.out (by simp[Qbc.j0])
  | succ kj4 =>
   have H:=HA.out;clear HA;simp only[Qbc.j0]at H;have aw:=QA H;clear H
   go_upto_if 23 with(fail)
   go_cut [] (fun wc=>∃(kq:Nat) (d:ByteArray) (j:Int) (a:Int),Aside0 (Qbc.j1 kq a1 r d j a=some (r1,r2,r3,r4))∧Aside0 (kq≤kj4)∧Aside0 (wc.heap[p]? = some (.cells #[.string d,.int .i64 j,.int .i64 a] 257 (0,0)))∧Aside0 (wc.heap[n]? = some (.cells #[.string (⟨#[]⟩:ByteArray),.int .i64 0,.int .i64 0] 257 (0,0)))∧Aside0 (Below w.heap.size w wc))
   case first =>
    have H:=aw.out;clear aw
    by_cases ai:Y=true
    ·subst ai;rw[if_pos rfl]at H;replace H:=Option.bind_eq_some_iff.mp H;obtain⟨⟨af,au,ax⟩,aR,H⟩:=H;replace H:(Qbc.j1 kj4 a1 r af au ax)=some (r1,r2,r3,r4):=H;have bQ:=QA aR;clear aR;have H':=QA H;clear H;have b3:=m.out;have b4:=c.out;obtain⟨aj,ak,al⟩:=qc3 b.out;have aG:=Qdw b.out
     go_wp2_with (first |((with_reducible refine Qij (f:=222) rfl ?_);refine Qgm (some 25) rfl rfl Tryz.func222 qq_7 rfl #[.agg #[.string t,.int .i64 v,.int .i64 q],.int .i64 3] rfl qq_1 ?_;(with_reducible refine(Qaw.calls t v q 3 af au ax _ bQ.out).mono ?_);rintro e cw ⟨rfl,hb⟩;refine⟨_,rfl,?_⟩;have n_:=qn3 (Qei (g:=p) (o:=.cells #[.string t,.int .i64 v,.int .i64 q] 257 (0,0)) qq_0 hb) (Qei (g:=n) (o:=.cells #[.string (⟨#[]⟩:ByteArray),.int .i64 0,.int .i64 0] 257 (0,0)) qq_0 hb) (Qfj qq_b hb);clear b l HB;obtain⟨b,l,HB⟩:=n_;(try clear hb);(try clear hb2);(try clear hk);(try clear hi);obtain⟨am,an,ao⟩:=qc3 b.out;have aH:=Qdw b.out))
     go_meet
     case rel=>exact⟨_,(af),(au),(ax),H',⟨by have:=HJ4.out;first|omega|exact Nat.le_refl _⟩,⟨by(with_reducible repeat(first|apply Qeh|apply Qeg|apply Qef));refine Qfp (cs:=#[.string af,.int .i64 au,.int .i64 q]) ?_ 2 _ rfl;(with_reducible repeat(first|apply Qeh|apply Qeg|apply Qef));refine Qfp (cs:=#[.string af,.int .i64 v,.int .i64 q]) ?_ 1 _ rfl;(with_reducible repeat(first|apply Qeh|apply Qeg|apply Qef));refine Qfp (cs:=#[.string t,.int .i64 v,.int .i64 q]) ?_ 0 _ rfl;(with_reducible repeat(first|apply Qeh|apply Qeg|apply Qef));exact b.out⟩,⟨by(with_reducible repeat(first|apply Qeh|apply Qeg|apply Qef));refine Qdt ?_ c.out _;(with_reducible repeat(first|apply Qeh|apply Qeg|apply Qef));refine Qdt ?_ c.out _;(with_reducible repeat(first|apply Qeh|apply Qeg|apply Qef));refine Qdt ?_ c.out _;(with_reducible repeat(first|apply Qeh|apply Qeg|apply Qef));exact l.out⟩,⟨qq_b⟩⟩
    ·replace ai:=Bool.eq_false_iff.mpr ai;subst ai;rw[if_neg (show ¬(false=true)by decide)]at H;have H':=QA H;clear H;go_wp2
     go_meet
     case rel=>exact⟨_,(t),(v),(q),H',⟨by have:=HJ4.out;first|omega|exact Nat.le_refl _⟩,⟨by(with_reducible repeat(first|apply Qeh|apply Qeg|apply Qef));exact b.out⟩,⟨by(with_reducible repeat(first|apply Qeh|apply Qeg|apply Qef));exact l.out⟩,⟨qq_b⟩⟩
   case rest =>
    clear aw
    try clear E
    try clear z
    try clear Z
    try clear ai
    try clear J
    try clear K
    try clear L
    try clear M
    try clear O
    try clear P
    try clear T
    try clear U
    try clear W
    try clear aj
    try clear ak
    try clear al
    try clear am
    try clear an
    try clear ao
    try clear ab
    try clear ac
    try clear ad
    try clear ap
    try clear aq
    try clear ar
    try clear aG
    try clear aH
    try clear av
    obtain⟨kq,d,j,a,HA,HJ17,b,l,HB⟩:=hcut
    cases kq with
    | zero=>exact absurd HA.out (by simp[Qbc.j1])
    | succ kj17 =>
     have H:=HA.out;clear HA;simp only[Qbc.j1]at H;have ay:=QA H;clear H
     go_upto_region 4 with(fail)
     go_cut [35] (fun bR wc=>∃(kq:Nat) (I:Bool),bR=.bool I∧Aside0 (Qbc.j2 kq r I d j a=some (r1,r2,r3,r4))∧Aside0 (kq≤kj17)∧Aside0 (wc.heap[p]? = some (.cells #[.string d,.int .i64 j,.int .i64 a] 257 (0,0)))∧Aside0 (wc.heap[n]? = some (.cells #[.string (⟨#[]⟩:ByteArray),.int .i64 0,.int .i64 0] 257 (0,0)))∧Aside0 (Below w.heap.size w wc))
     case first =>
      have H:=ay.out;clear ay
      by_cases X:a=0
      ·rw[if_pos X]at H;have D:(a == 0)=true:=beq_iff_eq.mpr X;have aI:(a != 0)=false:=bne_eq_false_iff_eq.mpr X;clear X
       (first|rw[D] |(simp only[Qgo,Qgp];rw[D])|skip)
       obtain⟨az,aa⟩:∃j_:Int,(mx 0 a1)=j_:=⟨_,rfl⟩;replace H:(Qbc.j2 kj17 r (decide (r<(IntKind.u64.wrap (az)))) d j a)=some (r1,r2,r3,r4):=by first |(rw[aa]at H;exact H) |(simp only[aa]at H ⊢;exact H)
       have bS:(if 0<a1 then a1 else 0)=az:=aa;have H':=QA H;clear H;have b5:=m.out;have b6:=c.out;obtain⟨aK,aL,aM⟩:=qc3 b.out;have aX:=Qdw b.out;go_wp2
       go_meet
       case rel=>exact⟨_,(decide (r<(IntKind.u64.wrap (az)))),(by first|rfl |(simp;done) |(simp only[← aa]<;>(first|rfl|simp)) |(simp[*];done)),H',⟨by have:=HJ4.out;have:=HJ17.out;first|omega|exact Nat.le_refl _⟩,⟨by(with_reducible repeat(first|apply Qeh|apply Qeg|apply Qef));exact b.out⟩,⟨by(with_reducible repeat(first|apply Qeh|apply Qeg|apply Qef));exact l.out⟩,⟨qq_b⟩⟩
      ·rw[if_neg X]at H;have D:(a == 0)=false:=beq_eq_false_iff_ne.mpr X;have aI:(a != 0)=true:=bne_iff_ne.mpr X
       (first|rw[D] |(simp only[Qgo,Qgp];rw[D])|skip)
       have H':=QA H;clear H;have b7:=m.out;have b8:=c.out;obtain⟨aN,aO,aP⟩:=qc3 b.out;have aY:=Qdw b.out;go_wp2
       go_meet
       case rel=>exact⟨_,(false),qq_4,H',⟨by have:=HJ4.out;have:=HJ17.out;first|omega|exact Nat.le_refl _⟩,⟨by(with_reducible repeat(first|apply Qeh|apply Qeg|apply Qef));exact b.out⟩,⟨by(with_reducible repeat(first|apply Qeh|apply Qeg|apply Qef));exact l.out⟩,⟨qq_b⟩⟩
     case rest =>
      clear ay
      try clear E
      try clear z
      try clear Z
      try clear ai
      try clear X
      try clear D
      try clear aI
      try clear J
      try clear K
      try clear L
      try clear M
      try clear O
      try clear P
      try clear T
      try clear U
      try clear W
      try clear aj
      try clear ak
      try clear al
      try clear am
      try clear an
      try clear ao
      try clear aK
      try clear aL
      try clear aM
      try clear aN
      try clear aO
      try clear aP
      try clear ab
      try clear ac
      try clear ad
      try clear ap
      try clear aq
      try clear ar
      try clear aG
      try clear aH
      try clear aX
      try clear aY
      try clear av
      obtain⟨kq,I,rfl,HA,HJ24,b,l,HB⟩:=hcut
      cases kq with
      | zero=>exact absurd HA.out (by simp[Qbc.j2])
      | succ kj24 =>
       have H:=HA.out;clear HA;simp only[Qbc.j2]at H
       by_cases aJ:I=true
       ·subst aJ;rw[if_pos rfl]at H;replace H:=Option.bind_eq_some_iff.mp H;obtain⟨⟨A,B,x⟩,aS,H⟩:=H;replace H:(if x=0 then((Qaz.f kj24 A B x (wrap64 (r))).bind fun bt675=>(some (bt675.1,bt675.2.1,bt675.2.2.1,bt675.2.2.2)))else(some (A,B,x,(⟨#[]⟩:ByteArray))))=some (r1,r2,r3,r4):=H;have be:=QA aS;clear aS
        by_cases ag:x=0
        ·rw[if_pos ag]at H;have aZ:(x == 0)=true:=beq_iff_eq.mpr ag;have ba:(x != 0)=false:=bne_eq_false_iff_eq.mpr ag;clear ag;replace H:=Option.bind_eq_some_iff.mp H;obtain⟨⟨aA,aB,aC,aT⟩,aU,H⟩:=H;replace H:(some (aA,aB,aC,aT))=some (r1,r2,r3,r4):=H;have bT:=QA aU;clear aU;simp only[Option.some.injEq,Prod.mk.injEq]at H;obtain⟨rfl,rfl,rfl,rfl⟩:=H;have b9:=m.out;have ca:=c.out;obtain⟨bf,bg,bh⟩:=qc3 b.out;have cb:=Qdw b.out
         go_wp2_with (first |((with_reducible refine Qij (f:=222) rfl ?_);refine Qgm (some 37) rfl rfl Tryz.func222 qq_7 rfl #[.agg #[.string d,.int .i64 j,.int .i64 a],.int .i64 4] rfl qq_1 ?_;(with_reducible refine(Qaw.calls d j a 4 A B x _ be.out).mono ?_);rintro e cx ⟨rfl,hb⟩;refine⟨_,rfl,?_⟩;have n_:=qn3 (Qei (g:=p) (o:=.cells #[.string d,.int .i64 j,.int .i64 a] 257 (0,0)) qq_0 hb) (Qei (g:=n) (o:=.cells #[.string (⟨#[]⟩:ByteArray),.int .i64 0,.int .i64 0] 257 (0,0)) qq_0 hb) (Qfj qq_b hb);clear b l HB;obtain⟨b,l,HB⟩:=n_;(try clear hb);(try clear hb2);(try clear hk);(try clear hi);obtain⟨bi,bj,bk⟩:=qc3 b.out;have cc:=Qdw b.out) |((with_reducible refine Qij (f:=223) rfl ?_);refine Qgm (some 45) rfl rfl Tryz.func223 qq_7 rfl #[.agg #[.string A,.int .i64 B,.int .i64 x],.int .i64 (wrap64 (r))] rfl qq_1 ?_;(with_reducible refine(Qaz.calls kj24 A B x (wrap64 (r)) aA aB aC aT _ bT.out).mono ?_);rintro e cy ⟨rfl,hb⟩;refine⟨_,rfl,?_⟩;have n_:=qn3 (Qei (g:=p) (o:=.cells #[.string A,.int .i64 B,.int .i64 x] 257 (0,0)) qq_x hb) (Qei (g:=n) (o:=.cells #[.string (⟨#[]⟩:ByteArray),.int .i64 0,.int .i64 0] 257 (0,0)) qq_9 hb) (Qfj qq_b hb);clear b l HB;obtain⟨b,l,HB⟩:=n_;(try clear hb);(try clear hb2);(try clear hk);(try clear hi);obtain⟨bl,bn,bo⟩:=qc3 l.out;have cd:=Qdw l.out))
         refine bodyPost_ret (Qek rfl _ _ n 257 #[.string aA,.int .i64 aB,.int .i64 aC] (0,0) _ rfl qq_x Tryz.underlying257 rfl qq_7) rfl ?_;exact⟨qq_2,qq_b⟩
        ·rw[if_neg ag]at H;have aZ:(x == 0)=false:=beq_eq_false_iff_ne.mpr ag;have ba:(x != 0)=true:=bne_iff_ne.mpr ag;simp only[Option.some.injEq,Prod.mk.injEq]at H;obtain⟨rfl,rfl,rfl,rfl⟩:=H;have ce:=m.out;have cf:=c.out;obtain⟨bp,bq,br⟩:=qc3 b.out;have cg:=Qdw b.out
         go_wp2_with (first |((with_reducible refine Qij (f:=222) rfl ?_);refine Qgm (some 37) rfl rfl Tryz.func222 qq_7 rfl #[.agg #[.string d,.int .i64 j,.int .i64 a],.int .i64 4] rfl qq_1 ?_;(with_reducible refine(Qaw.calls d j a 4 A B x _ be.out).mono ?_);rintro e cz ⟨rfl,hb⟩;refine⟨_,rfl,?_⟩;have n_:=qn3 (Qei (g:=p) (o:=.cells #[.string d,.int .i64 j,.int .i64 a] 257 (0,0)) qq_0 hb) (Qei (g:=n) (o:=.cells #[.string (⟨#[]⟩:ByteArray),.int .i64 0,.int .i64 0] 257 (0,0)) qq_0 hb) (Qfj qq_b hb);clear b l HB;obtain⟨b,l,HB⟩:=n_;(try clear hb);(try clear hb2);(try clear hk);(try clear hi);obtain⟨bs,bu,bv⟩:=qc3 b.out;have ch:=Qdw b.out;obtain⟨bw,bx,bz⟩:=qc3 l.out;have cj:=Qdw l.out))
         refine bodyPost_ret (Qek rfl _ _ n 257 #[.string A,.int .i64 B,.int .i64 x] (0,0) _ rfl (by(with_reducible repeat(first|apply Qeh|apply Qeg|apply Qef));refine Qfp (cs:=#[.string A,.int .i64 B,.int .i64 0]) ?_ 2 _ rfl;(with_reducible repeat(first|apply Qeh|apply Qeg|apply Qef));refine Qfp (cs:=#[.string A,.int .i64 0,.int .i64 0]) ?_ 1 _ rfl;(with_reducible repeat(first|apply Qeh|apply Qeg|apply Qef));refine Qfp (cs:=#[.string (⟨#[]⟩:ByteArray),.int .i64 0,.int .i64 0]) ?_ 0 _ rfl;(with_reducible repeat(first|apply Qeh|apply Qeg|apply Qef));refine Qdt ?_ c.out _;(with_reducible repeat(first|apply Qeh|apply Qeg|apply Qef));refine Qdt ?_ c.out _;(with_reducible repeat(first|apply Qeh|apply Qeg|apply Qef));refine Qdt ?_ c.out _;(with_reducible repeat(first|apply Qeh|apply Qeg|apply Qef));exact l.out) Tryz.underlying257 rfl qq_7) rfl ?_;exact⟨qq_2,qq_b⟩
       ·replace aJ:=Bool.eq_false_iff.mpr aJ;subst aJ;rw[if_neg (show ¬(false=true)by decide)]at H
        by_cases ah:a=0
        ·rw[if_pos ah]at H;have bb:(a == 0)=true:=beq_iff_eq.mpr ah;have bc:(a != 0)=false:=bne_eq_false_iff_eq.mpr ah;clear ah;replace H:=Option.bind_eq_some_iff.mp H;obtain⟨⟨aD,aE,aF,aV⟩,aW,H⟩:=H;replace H:(some (aD,aE,aF,aV))=some (r1,r2,r3,r4):=H;have bU:=QA aW;clear aW;simp only[Option.some.injEq,Prod.mk.injEq]at H;obtain⟨rfl,rfl,rfl,rfl⟩:=H;have ck:=m.out;have cl:=c.out;obtain⟨bA,bB,bC⟩:=qc3 b.out;have cm:=Qdw b.out
         go_wp2_with (first |((with_reducible refine Qij (f:=223) rfl ?_);refine Qgm (some 45) rfl rfl Tryz.func223 qq_7 rfl #[.agg #[.string d,.int .i64 j,.int .i64 a],.int .i64 (wrap64 (r))] rfl qq_1 ?_;(with_reducible refine(Qaz.calls kj24 d j a (wrap64 (r)) aD aE aF aV _ bU.out).mono ?_);rintro e cA ⟨rfl,hb⟩;refine⟨_,rfl,?_⟩;have n_:=qn3 (Qei (g:=p) (o:=.cells #[.string d,.int .i64 j,.int .i64 a] 257 (0,0)) qq_0 hb) (Qei (g:=n) (o:=.cells #[.string (⟨#[]⟩:ByteArray),.int .i64 0,.int .i64 0] 257 (0,0)) qq_0 hb) (Qfj qq_b hb);clear b l HB;obtain⟨b,l,HB⟩:=n_;(try clear hb);(try clear hb2);(try clear hk);(try clear hi);obtain⟨bD,bE,bF⟩:=qc3 l.out;have cn:=Qdw l.out))
         refine bodyPost_ret (Qek rfl _ _ n 257 #[.string aD,.int .i64 aE,.int .i64 aF] (0,0) _ rfl qq_x Tryz.underlying257 rfl qq_7) rfl ?_;exact⟨qq_2,qq_b⟩
        ·rw[if_neg ah]at H;have bb:(a == 0)=false:=beq_eq_false_iff_ne.mpr ah;have bc:(a != 0)=true:=bne_iff_ne.mpr ah;simp only[Option.some.injEq,Prod.mk.injEq]at H;obtain⟨rfl,rfl,rfl,rfl⟩:=H;have co:=m.out;have cp:=c.out;obtain⟨bG,bH,bI⟩:=qc3 b.out;have cq:=Qdw b.out;obtain⟨bJ,bK,bL⟩:=qc3 l.out;have cr:=Qdw l.out;go_wp2;refine bodyPost_ret (Qek rfl _ _ n 257 #[.string d,.int .i64 j,.int .i64 a] (0,0) _ rfl qq_x Tryz.underlying257 rfl qq_7) rfl ?_;exact⟨qq_2,qq_b⟩
mutual
def Qbs.l0:Nat→Int→ByteArray→List (S164)→Int→Option ((List (S164)))
 | 0,_,_,_,_=>none
 | k+1,x0,x1,x5,x6=>if x1.toList=([]:List UInt8)then(some x5)else(if(x1.size:Int) > x0 then(if 0≤x0 then(if x0≤(x1.size:Int)then(Qbs.j1 k x0 x1 x5 x6 (x1.extract 0 (x0:Int).toNat))else(none))else(none))else(Qbs.j1 k x0 x1 x5 x6 x1))
def Qbs.j1:Nat→Int→ByteArray→List (S164)→Int→ByteArray→Option ((List (S164)))
 | 0,_,_,_,_,_=>none
 | k+1,x0,x1,x5,x6,x7=>if 0≤(x7.size:Int)then(if(x7.size:Int)≤(x1.size:Int)then(Qbs.l1 k x0 (x1.extract ((x7.size:Int):Int).toNat x1.size) x5 x6 x7 0 0)else(none))else(none)
def Qbs.l1:Nat→Int→ByteArray→List (S164)→Int→ByteArray→Int→Int→Option ((List (S164)))
 | 0,_,_,_,_,_,_,_=>none
 | k+1,x0,x1,x5,x6,x7,x8,x9=>if x9<(x7.size:Int)then(if 0≤x9 then(if(bt x7 x9)=0 then(if x5.length<5864062014805 then(Qbs.l1 k x0 x1 (x5++[(⟨x6,x8,x9⟩:S164)]) x6 x7 (wrap64 (x9+1)) (wrap64 (x9+1)))else(none))else(Qbs.l1 k x0 x1 x5 x6 x7 x8 (wrap64 (x9+1))))else(none))else(Qbs.l0 k x0 x1 x5 (IntKind.u64.wrap (x6+1)))
end
def Qbs.f(k:Nat)(a0:Int)(a1:ByteArray):Option ((List (S164))):=Qbs.l0 k (mx 1 a0) a1 ([]:List (S164)) 0
theorem Qbs.calls (k:Nat) (a0:Int) (a1:ByteArray) (r:List (S164)) (w:World) (h:Qbs.f k a0 a1=some r) :
  Calls Tryz.prog 92 #[.int .i64 a0,.string a1] w fun e w'=>∃Y:Value,e=.returned (Y)∧Kd.R k164 164 w' w.heap.size (fun _=>True) Y r∧Below w.heap.size w w':=by
 have hu164:=Tryz.underlying164;have HB:=QA (Below.refl w.heap.size w);have H:(Qbs.l0 k (mx 1 a0) a1 ([]:List (S164)) 0)=some r:=h;clear h;obtain⟨j,p⟩:∃j_:Int,(mx 1 a0)=j_:=⟨_,rfl⟩;replace H:(Qbs.l0 k j a1 ([]:List (S164)) 0)=some r:=by first |(rw[p]at H;exact H) |(simp only[p]at H ⊢;exact H)
 (try(have ac:1≤j:=by(rw[← p];unfold mx;(repeat' split)<;>omega)))
 (try(have ad:0≤j:=by omega))
 have ae:(if 1<a0 then a0 else 1)=j:=p;have H':=QA H;clear H
 go_enter Tryz.func92,Tryz.ntmps92
 go_wp2
 go_loopg [1,5,6] k (fun kq v1 v5 v6 w'=>∃(c:ByteArray) (q:List (S164)) (g:Int),v1=.string c∧v6=.int .u64 g∧Aside0 (Qbs.l0 kq j c q g=some r)∧Aside0 (kq≤k)∧Aside0 (Kd.R k164 164 w' w.heap.size (fun _=>True) v5 q)∧Aside0 (Below w.heap.size w w'))
 case atStart=>exact⟨(a1),(([]:List (S164))),(0),qq_4,qq_4,H',⟨Nat.le_refl _⟩,⟨by first|exact Kd.R_nil _ _ _ _ _|exact Kd.N_nil _ _ _ _ _|exact Kd.V_nil _ _ _ _ _|exact Kd.Q_nil _ _ _ _ _|exact Kd.S_nil _ _ _ _ _⟩,⟨qq_b⟩⟩
 case round =>
  clear H';obtain⟨c,q,g,rfl,rfl,HA,HK1,HO_5,HB⟩:=hrel
  cases gk with
  | zero=>exact absurd HA.out (by simp[Qbs.l0])
  | succ k1 =>
   have H:=HA.out;clear HA;simp only[Qbs.l0]at H
   by_cases c4:c.toList=([]:List UInt8)
   ·rw[if_pos c4]at H;have x:(c.toList == ([]:List UInt8))=true:=beq_iff_eq.mpr c4;have y:(c.toList != ([]:List UInt8))=false:=bne_eq_false_iff_eq.mpr c4;clear c4;obtain rfl:=Option.some.inj H;go_wp2;go_ret
    exact⟨_,by first|rfl |(simp[Qio,Qip]<;>rfl) |(simp only[← p];first|rfl |(simp[Qio,Qip]<;>rfl)) |(simp[*,Qio,Qip]<;>rfl),by(with_reducible repeat(first|apply Kd.R_alloc|apply Kd.R_drewN|apply Kd.R_drew));exact HO_5.out,qq_b⟩
   ·rw [if_neg c4]at H;have x:(c.toList == ([]:List UInt8))=false:=beq_eq_false_iff_ne.mpr c4;have y:(c.toList != ([]:List UInt8))=true:=bne_iff_ne.mpr c4;have B:=QA H;clear H
    go_upto_if 18 with(fail)
    go_cut [7] (fun v7 wc=>∃(kq:Nat) (d:ByteArray),v7=.string d∧Aside0 (Qbs.j1 kq j c q g d=some r)∧Aside0 (kq≤k1)∧Aside0 (Kd.R k164 164 wc w.heap.size (fun _=>True) u5 q)∧Aside0 (Below w.heap.size w wc))
    case first =>
     have H:=B.out;clear B
     by_cases c6:(c.size:Int) > j
     ·rw[if_pos c6]at H;have n:decide (j<(c.size:Int))=true:=decide_eq_true c6;clear c6
      (first|rw[n] |(simp only[Qgo,Qgp];rw[n])|skip)
      by_cases c7:0≤j
      ·rw[if_pos c7]at H;have D:=eq_true c7;have E:=decide_eq_true c7;clear c7
       by_cases c8:j≤(c.size:Int)
       ·rw[if_pos c8]at H;have G:=eq_true c8;have I:=decide_eq_true c8;clear c8;have H':=QA H;clear H;go_wp2
        go_meet
        case rel=>exact⟨_,(c.extract 0 (j:Int).toNat),(by first|rfl |(simp;done) |(simp only[← p]<;>(first|rfl|simp)) |(simp[*];done)),H',⟨by have:=HK1.out;first|omega|exact Nat.le_refl _⟩,⟨by(with_reducible repeat(first|apply Kd.R_alloc|apply Kd.R_drewN|apply Kd.R_drew));exact HO_5.out⟩,⟨qq_b⟩⟩
       ·rw[if_neg c8]at H;exact absurd H (by simp)
      ·rw[if_neg c7]at H;exact absurd H (by simp)
     ·rw[if_neg c6]at H;have n:decide (j<(c.size:Int))=false:=decide_eq_false c6;clear c6
      (first|rw[n] |(simp only[Qgo,Qgp];rw[n])|skip)
      have H':=QA H;clear H;go_wp2
      go_meet
      case rel=>exact⟨_,(c),qq_4,H',⟨by have:=HK1.out;first|omega|exact Nat.le_refl _⟩,⟨by(with_reducible repeat(first|apply Kd.R_alloc|apply Kd.R_drewN|apply Kd.R_drew));exact HO_5.out⟩,⟨qq_b⟩⟩
    case rest =>
     clear B
     try clear c4
     try clear x
     try clear y
     try clear c6
     try clear n
     try clear c7
     try clear D
     try clear E
     try clear c8
     try clear G
     try clear I
     obtain⟨kq,d,rfl,HA,HJ4,HO_5,HB⟩:=hcut
     cases kq with
     | zero=>exact absurd HA.out (by simp[Qbs.j1])
     | succ kj4 =>
      have H:=HA.out;clear HA;simp only[Qbs.j1]at H
      by_cases c9:0≤(d.size:Int)
      ·rw [if_pos c9]at H;have Z:=eq_true c9;have aa:=decide_eq_true c9;clear c9
       by_cases c10:(d.size:Int)≤(c.size:Int)
       ·rw [if_pos c10]at H;have L:=eq_true c10;have M:=decide_eq_true c10;clear c10;have H':=QA H;clear H;go_wp2
        go_loopg [5,8,9] kj4 (fun kq v5 v8 v9 w'=>∃(l:List (S164)) (m:Int) (a:Int),v8=.int .i64 m∧v9=.int .i64 a∧Aside0 (Qbs.l1 kq j (c.extract ((d.size:Int):Int).toNat c.size) l g d m a=some r)∧Aside0 (kq≤kj4)∧Aside0 (Kd.R k164 164 w' w.heap.size (fun _=>True) v5 l)∧Aside0 (Below w.heap.size w w'))
        case atStart=>exact⟨(q),(0),(0),qq_4,qq_4,H',⟨Nat.le_refl _⟩,⟨by(with_reducible repeat(first|apply Kd.R_alloc|apply Kd.R_drewN|apply Kd.R_drew));exact HO_5.out⟩,⟨qq_b⟩⟩
        case round =>
         clear H'
         try clear c4
         try clear x
         try clear y
         try clear c6
         try clear n
         try clear c7
         try clear D
         try clear E
         try clear c8
         try clear G
         try clear I
         try clear c9
         try clear Z
         try clear aa
         try clear c10
         try clear L
         try clear M
         obtain⟨l,m,a,rfl,rfl,HA,HK3,HO_5,HB⟩:=hrel
         cases gk with
         | zero=>exact absurd HA.out (by simp[Qbs.l1])
         | succ k3 =>
          have H:=HA.out;clear HA;simp only[Qbs.l1]at H
          by_cases t:a<(d.size:Int)
          ·rw [if_pos t]at H;have O:=decide_eq_true t;clear t
           by_cases z:0≤a
           ·rw[if_pos z]at H;have af:=decide_eq_true z;clear z
            by_cases s:(bt d a)=0
            ·rw[if_pos s]at H;have P:((bt d a) == 0)=true:=beq_iff_eq.mpr s;have T:((bt d a) != 0)=false:=bne_eq_false_iff_eq.mpr s;clear s
             by_cases A:l.length<5864062014805
             ·rw[if_pos A]at H;have U:=QA A;clear A;obtain⟨J,o⟩:∃y_:List (S164),y_=(l++[(⟨g,m,a⟩:S164)]):=⟨_,rfl⟩;replace H:(Qbs.l1 k3 j (c.extract ((d.size:Int):Int).toNat c.size) J g d (wrap64 (a+1)) (wrap64 (a+1)))=some r:=by first |(rw[o];with_reducible exact H) |(have K:=(Option.bind_some _ _).symm.trans H;rw[o];with_reducible exact K) |(have K:=(Option.bind_some _ _).symm.trans H;with_reducible exact K)|with_reducible exact H |(rw[o];exact H)|exact H
              have W:=QA o;clear o;have H':=QA H;clear H;have u:0≤(a:Int):=of_decide_eq_true qq_3;have v:a<(d.size:Int):=of_decide_eq_true qq_3;have ab:=Qcv d a;replace u:=eq_true u;replace v:=eq_true v
              go_wp2_with (first |((with_reducible refine Qik (b:=.append) (xs:=#[.tmp 36,.tmp 41]) rfl ?_);at_builtin;refine Kd.R_append k164 (w0:=w) w.heap.size rfl (.tmp 36) (.tmp 41) 161 164 (.agg #[(.int .u64 0),(.int .i64 0),(.int .i64 0)]) 24 rfl Tryz.underlying161 info164 rfl (by decide) (by omega) u5 l (⟨g,m,a⟩:S164) [.int .u64 g,.int .i64 m,.int .i64 a] (fun _=>True) (fun _=>False) rfl rfl ?aP (fun _ hk=>hk.elim) ?aF ?aO ?aB ?aS ?aL ?_;(case aP=>exact Qjj _ _ _ (⟨g,m,a⟩:S164));(case aB=>exact qq_b);(case aF=>exact(fun _ _=>trivial));(case aO=>exact qq_8);(case aS=>exact(Qfi qq_b));(case aL=>have:=U.out;omega);intro ag ah ho hb hg hat;rw[← W.out]at ho;have n_:=qn2 (hb) (ho);clear HB HO_5;obtain⟨HB,X⟩:=n_;clear ho hb hg hat))
              go_roundg k3
              case measure=>have:=HK1.out;have:=HJ4.out;have:=HK3.out;omega
              case rel=>exact⟨(J),(wrap64 (a+1)),(wrap64 (a+1)),qq_4,qq_4,H',⟨by have:=HK1.out;have:=HJ4.out;have:=HK3.out;omega⟩,⟨by(with_reducible repeat(first|apply Kd.R_alloc|apply Kd.R_drewN|apply Kd.R_drew));exact X.out⟩,⟨qq_b⟩⟩
             ·rw[if_neg A]at H;exact absurd H (by simp)
            ·rw[if_neg s]at H;have P:((bt d a) == 0)=false:=beq_eq_false_iff_ne.mpr s;have T:((bt d a) != 0)=true:=bne_iff_ne.mpr s;have H':=QA H;clear H;have u:0≤(a:Int):=of_decide_eq_true qq_3;have v:a<(d.size:Int):=of_decide_eq_true qq_3;have ab:=Qcv d a;replace u:=eq_true u;replace v:=eq_true v;go_wp2
             go_roundg k3
             case measure=>have:=HK1.out;have:=HJ4.out;have:=HK3.out;omega
             case rel=>exact⟨(l),(m),(wrap64 (a+1)),qq_4,qq_4,H',⟨by have:=HK1.out;have:=HJ4.out;have:=HK3.out;omega⟩,⟨by(with_reducible repeat(first|apply Kd.R_alloc|apply Kd.R_drewN|apply Kd.R_drew));exact HO_5.out⟩,⟨qq_b⟩⟩
           ·rw[if_neg z]at H;exact absurd H (by simp)
          ·rw[if_neg t]at H;have O:=decide_eq_false t;clear t;have H':=QA H;clear H;go_wp2
           go_roundg k3
           case measure=>have:=HK1.out;have:=HJ4.out;have:=HK3.out;omega
           case rel=>exact⟨((c.extract ((d.size:Int):Int).toNat c.size)),(l),(IntKind.u64.wrap (g+1)),qq_4,qq_4,H',⟨by have:=HK1.out;have:=HJ4.out;have:=HK3.out;omega⟩,⟨by(with_reducible repeat(first|apply Kd.R_alloc|apply Kd.R_drewN|apply Kd.R_drew));exact HO_5.out⟩,⟨qq_b⟩⟩
       ·rw[if_neg c10]at H;exact absurd H (by simp)
      ·rw[if_neg c9]at H;exact absurd H (by simp)
def Qcp.l0:Nat→List (S39)→List (S97)→Int→Int→Option ((List (S39)))
 | 0,_,_,_,_=>none
 | k+1,x3,x6,x7,x8=>if x8<x7 then(if 0≤x8 then(if x8<(x6.length:Int)then(if x3.length<2932031007402 then(Qcp.l0 k (x3++[(⟨(Qjc x6 x8).f0.f0,(Qjc x6 x8).f0.f1,(Qjc x6 x8).f0.f2,(Qjc x6 x8).f0.f3⟩:S39)]) x6 x7 (wrap64 (x8+1)))else(none))else(none))else(none))else(some x3)
def Qcp.f(k:Nat)(l0:List (S97)):Option ((List (S39))):=Qcp.l0 k ([]:List (S39)) l0 (l0.length:Int) 0
theorem Qcp.calls(k:Nat)(A0:Option Addr)(c0:Nat)(l0:List (S97))(r:List (S39))(w:World)(hr0:Kd.C k97 w A0 l0.length l0)(hc0:l0.length≤c0)(h:Qcp.f k l0=some r) :
  Calls Tryz.prog 51 #[.slice A0 l0.length c0] w fun e w'=>∃G:Value,e=.returned (G)∧Kd.R k39 39 w' w.heap.size (fun _=>True) G r∧Below w.heap.size w w':=by
 have hu97:=Tryz.underlying97;have hu39:=Tryz.underlying39;have L:=QA hr0;have af:=QA hc0;clear hr0 hc0;have HB:=QA (Below.refl w.heap.size w);have H:(Qcp.l0 k ([]:List (S39)) l0 (l0.length:Int) 0)=some r:=h;clear h;have H':=QA H;clear H
 go_enter Tryz.func51,Tryz.ntmps51
 go_wp2
 go_loopg [3,8] k (fun kq v3 v8 w'=>∃(l:List (S39)) (a:Int),v8=.int .i64 a∧Aside0 (Qcp.l0 kq l l0 (l0.length:Int) a=some r)∧Aside0 (kq≤k)∧Aside0 (Kd.R k39 39 w' w.heap.size (fun _=>True) v3 l)∧Aside0 (Below w.heap.size w w'))
 case atStart=>exact⟨(([]:List (S39))),(0),qq_4,H',⟨Nat.le_refl _⟩,⟨by first|exact Kd.R_nil _ _ _ _ _|exact Kd.N_nil _ _ _ _ _|exact Kd.V_nil _ _ _ _ _|exact Kd.Q_nil _ _ _ _ _|exact Kd.S_nil _ _ _ _ _⟩,⟨qq_b⟩⟩
 case round =>
  clear H';obtain⟨l,a,rfl,HA,HK1,m,HB⟩:=hrel
  cases gk with
  | zero=>exact absurd HA.out (by simp[Qcp.l0])
  | succ k1 =>
   have H:=HA.out;clear HA;simp only[Qcp.l0]at H
   by_cases c2:a<(l0.length:Int)
   ·rw [if_pos c2]at H;have I:=decide_eq_true c2;clear c2
    by_cases c3:0≤a
    ·rw[if_pos c3]at H;have ab:=decide_eq_true c3;clear c3
     by_cases c4:a<(l0.length:Int)
     ·rw[if_pos c4]at H;have ac:=decide_eq_true c4;clear c4
      by_cases c5:l.length<2932031007402
      ·rw[if_pos c5]at H;have J:=QA c5;clear c5;obtain⟨A,j⟩:∃y_:List (S39),y_=(l++[(⟨(Qjc l0 a).f0.f0,(Qjc l0 a).f0.f1,(Qjc l0 a).f0.f2,(Qjc l0 a).f0.f3⟩:S39)]):=⟨_,rfl⟩;replace H:(Qcp.l0 k1 A l0 (l0.length:Int) (wrap64 (a+1)))=some r:=by first |(rw[j];with_reducible exact H) |(have B:=(Option.bind_some _ _).symm.trans H;rw[j];with_reducible exact B) |(have B:=(Option.bind_some _ _).symm.trans H;with_reducible exact B)|with_reducible exact H |(rw[j];exact H)|exact H
       have D:=QA j;clear j;have H':=QA H;clear H;have y:0≤(a:Int):=of_decide_eq_true qq_3;have z:a<(l0.length:Int):=of_decide_eq_true qq_3;obtain⟨Y,K,n,q,s,t,u,v,x⟩:=Qjd L.out a y z
       cases K
       replace n:=qq_h HB.out n;replace q:=qq_h HB.out q;replace s:=qq_h HB.out s;replace t:=qq_h HB.out t;replace u:=qq_h HB.out u;replace v:=qq_h HB.out v;replace x:=qq_h HB.out x;replace y:=eq_true y;replace z:=eq_true z
       go_wp2_with (first |((with_reducible refine Qft (N:=5) rfl ?_);refine qq_e 5 #[.bool false,.int .u64 0,.string (⟨#[]⟩:ByteArray),.string (⟨#[]⟩:ByteArray),.int .u64 0,.int .i64 0,.int .i64 0] 97 ?_;intro c hg w6 hbox hb;have n_:=qn5 (Kd.R_below qq_8 hb) (Qfj qq_b hb) (hbox) (qq_s hg:w.heap.size≤c) (qq_s hg:w.heap.size≤c);clear m HB;obtain⟨m,HB,d,Z,aa⟩:=n_;clear hb hbox hg;obtain⟨M,O,P,T,U,W,X⟩:=qc7 d.out;have ad:=Qdw d.out) |((with_reducible refine Qik (b:=.append) (xs:=#[.tmp 12,.tmp 15]) rfl ?_);at_builtin;refine Kd.R_append k39 (w0:=w) w.heap.size rfl (.tmp 12) (.tmp 15) 23 39 (.agg #[(.bool false),(.int .u64 0),(.string ⟨#[]⟩),(.string ⟨#[]⟩)]) 48 rfl Tryz.underlying23 info39 rfl (by decide) (by omega) u3 l (⟨(Qjc l0 a).f0.f0,(Qjc l0 a).f0.f1,(Qjc l0 a).f0.f2,(Qjc l0 a).f0.f3⟩:S39) [.bool ((Qjc l0 a).f0.f0),.int .u64 ((Qjc l0 a).f0.f1),.string ((Qjc l0 a).f0.f2),.string ((Qjc l0 a).f0.f3)] (fun _=>True) (fun _=>False) rfl qq_18 ?aP (fun _ hk=>hk.elim) ?aF ?aO ?aB ?aS ?aL ?_;(case aP=>exact Qit _ _ _ (⟨(Qjc l0 a).f0.f0,(Qjc l0 a).f0.f1,(Qjc l0 a).f0.f2,(Qjc l0 a).f0.f3⟩:S39));(case aB=>exact qq_b);(case aF=>exact(fun _ _=>trivial));(case aO=>exact(by(with_reducible repeat(first|apply Kd.R_alloc|apply Kd.R_drewN|apply Kd.R_drew));exact Kd.R_mono (Kd.R_far (p:=⟨c,6,none⟩) (Kd.R_far (p:=⟨c,5,none⟩) (Kd.R_far (p:=⟨c,4,none⟩) (Kd.R_far (p:=⟨c,3,none⟩) (Kd.R_far (p:=⟨c,2,none⟩) (Kd.R_far (p:=⟨c,1,none⟩) (Kd.R_far (p:=⟨c,0,none⟩) (Kd.R_types m.out d.out (by decide)) (fun _ hk=>hk.2) (.bool ((Qjc l0 a).f0.f0))) (fun _ hk=>hk.2) (.int .u64 ((Qjc l0 a).f0.f1))) (fun _ hk=>hk.2) (.string ((Qjc l0 a).f0.f2))) (fun _ hk=>hk.2) (.string ((Qjc l0 a).f0.f3))) (fun _ hk=>hk.2) (.int .u64 ((Qjc l0 a).f1))) (fun _ hk=>hk.2) (.int .i64 ((Qjc l0 a).f2))) (fun _ hk=>hk.2) (.int .i64 ((Qjc l0 a).f3))) (fun _ hk=>trivial)));(case aS=>exact(Qfi qq_b));(case aL=>have:=J.out;omega);intro ae w8 ho hb hg hat;rw[← D.out]at ho;have n_:=qn3 (Qdx (g:=c) (o:=.cells #[.bool ((Qjc l0 a).f0.f0),.int .u64 ((Qjc l0 a).f0.f1),.string ((Qjc l0 a).f0.f2),.string ((Qjc l0 a).f0.f3),.int .u64 ((Qjc l0 a).f1),.int .i64 ((Qjc l0 a).f2),.int .i64 ((Qjc l0 a).f3)] 97 (0,0)) qq_x hg (Kd.R_ne m.out d.out (by decide))) (hb) (ho);clear d HB m;obtain⟨d,HB,E⟩:=n_;clear ho hb hg hat))
       go_roundg k1
       case measure=>have:=HK1.out;omega
       case rel=>exact⟨(A),(wrap64 (a+1)),qq_4,H',⟨by have:=HK1.out;omega⟩,⟨by(with_reducible repeat(first|apply Kd.R_alloc|apply Kd.R_drewN|apply Kd.R_drew));exact E.out⟩,⟨qq_b⟩⟩
      ·rw[if_neg c5]at H;exact absurd H (by simp)
     ·rw[if_neg c4]at H;exact absurd H (by simp)
    ·rw[if_neg c3]at H;exact absurd H (by simp)
   ·rw[if_neg c2]at H;have I:=decide_eq_false c2;clear c2;obtain rfl:=Option.some.inj H;go_wp2;go_ret
    exact⟨_,by first|rfl |(simp[Qio,Qip]<;>rfl) |(simp[*,Qio,Qip]<;>rfl),by(with_reducible repeat(first|apply Kd.R_alloc|apply Kd.R_drewN|apply Kd.R_drew));exact m.out,qq_b⟩
def Qad.f(l0:List Int)(l1:List Int):Option (Bool):=some ((strOfNums l0).toList == (strOfNums l1).toList)
theorem Qad.calls(A0:Option Addr)(c0:Nat)(l0:List Int)(A1:Option Addr)(c1:Nat)(l1:List Int)(r:Bool)(w:World)(hr0:Kd.C (Kd.int .u8) w A0 l0.length l0)(hc0:l0.length≤c0)(hr1:Kd.C (Kd.int .u8) w A1 l1.length l1)(hc1:l1.length≤c1)(h:Qad.f l0 l1=some r) :
  Calls Tryz.prog 126 #[.slice A0 l0.length c0,.slice A1 l1.length c1] w fun e w'=>e=.returned (.bool r)∧Drawn0 w w':=by
 have HR0:=QA hr0;have HC0:=QA hc0;clear hr0 hc0;have HR1:=QA hr1;have HC1:=QA hc1;clear hr1 hc1;have H:(some ((strOfNums l0).toList == (strOfNums l1).toList))=some r:=h;clear h;obtain rfl:=Option.some.inj H;have hcv3:=Kd.C_string (P:=Tryz.prog) (A:=A0) (c:=c0) Tryz.underlying52 Tryz.underlying5 Tryz.underlying9 HR0.out;have hcv4:=Kd.C_string (P:=Tryz.prog) (A:=A1) (c:=c1) Tryz.underlying52 Tryz.underlying5 Tryz.underlying9 HR1.out
 go_enter Tryz.func126,Tryz.ntmps126
 go_wp2;go_ret
 exact⟨by first|rfl |(simp;done) |(simp[*];done),by repeat(first|exact Drawn0.refl _|apply Drawn0.step)⟩
def Qai.f(a0:Int):Option (Bool):=some (a0 != a0)
theorem Qai.calls(a0:Int)(r:Bool)(w:World)(h:Qai.f a0=some r) :
  Calls Tryz.prog 216 #[.int .u32 a0] w fun e w'=>e=.returned (.bool r)∧Drawn0 w w':=by
 have H:(some (a0 != a0))=some r:=h;clear h;obtain rfl:=Option.some.inj H
 go_enter Tryz.func216,Tryz.ntmps216
 go_wp2;go_ret
 exact⟨by first|rfl |(simp;done) |(simp[*];done),by repeat(first|exact Drawn0.refl _|apply Drawn0.step)⟩
def Qaf.f(a0:Int)(a1:Int):Option (Int):=(Qai.f a0).bind fun t211=>((Qai.f a1).bind fun t212=>(if t211=true then(if t212=true then(some 0)else(some (-1)))else(if t212=true then(some 1)else(if a0<a1 then(some (-1))else(if a0 > a1 then(some 1)else(some 0))))))
theorem Qaf.calls(a0:Int)(a1:Int)(r:Int)(w:World)(h:Qaf.f a0 a1=some r) :
  Calls Tryz.prog 167 #[.int .u32 a0,.int .u32 a1] w fun e w'=>e=.returned (.int .i64 r)∧Drawn0 w w':=by
 have H:((Qai.f a0).bind fun b=>((Qai.f a1).bind fun a=>(if b=true then(if a=true then(some 0)else(some (-1)))else(if a=true then(some 1)else(if a0<a1 then(some (-1))else(if a0 > a1 then(some 1)else(some 0)))))))=some r:=h;clear h;obtain⟨b,c,H⟩:=Option.bind_eq_some_iff.mp H;have A3:=QA c;clear c;obtain⟨a,d,H⟩:=Option.bind_eq_some_iff.mp H;have A4:=QA d;clear d
 by_cases c5:b=true
 ·subst c5;rw[if_pos rfl]at H
  by_cases c6:a=true
  ·subst c6;rw[if_pos rfl]at H;obtain rfl:=Option.some.inj H
   go_enter Tryz.func167,Tryz.ntmps167
   go_wp2_with (first |((with_reducible refine Qij (f:=216) rfl ?_);refine Qgm (some 8) rfl rfl Tryz.func216 qq_7 rfl #[.int .u32 a0] rfl qq_1 ?_;(with_reducible refine(Qai.calls a0 true _ A3.out).mono ?_);rintro e w' ⟨rfl,⟨nd,rfl⟩⟩;refine⟨_,rfl,?_⟩) |((with_reducible refine Qij (f:=216) rfl ?_);refine Qgm (some 10) rfl rfl Tryz.func216 qq_7 rfl #[.int .u32 a1] rfl qq_1 ?_;(with_reducible refine(Qai.calls a1 true _ A4.out).mono ?_);rintro e w' ⟨rfl,⟨nd,rfl⟩⟩;refine⟨_,rfl,?_⟩))
   go_ret
   exact⟨by first|rfl |(simp;done) |(simp[*];done),by repeat(first|exact Drawn0.refl _|apply Drawn0.step)⟩
  ·replace c6:=Bool.eq_false_iff.mpr c6;subst c6;rw[if_neg (show ¬(false=true)by decide)]at H;obtain rfl:=Option.some.inj H
   go_enter Tryz.func167,Tryz.ntmps167
   go_wp2_with (first |((with_reducible refine Qij (f:=216) rfl ?_);refine Qgm (some 8) rfl rfl Tryz.func216 qq_7 rfl #[.int .u32 a0] rfl qq_1 ?_;(with_reducible refine(Qai.calls a0 true _ A3.out).mono ?_);rintro e w' ⟨rfl,⟨nd,rfl⟩⟩;refine⟨_,rfl,?_⟩) |((with_reducible refine Qij (f:=216) rfl ?_);refine Qgm (some 10) rfl rfl Tryz.func216 qq_7 rfl #[.int .u32 a1] rfl qq_1 ?_;(with_reducible refine(Qai.calls a1 false _ A4.out).mono ?_);rintro e w' ⟨rfl,⟨nd,rfl⟩⟩;refine⟨_,rfl,?_⟩))
   go_ret
   exact⟨by first|rfl |(simp;done) |(simp[*];done),by repeat(first|exact Drawn0.refl _|apply Drawn0.step)⟩
 ·replace c5:=Bool.eq_false_iff.mpr c5;subst c5;rw[if_neg (show ¬(false=true)by decide)]at H
  by_cases c7:a=true
  ·subst c7;rw[if_pos rfl]at H;obtain rfl:=Option.some.inj H
   go_enter Tryz.func167,Tryz.ntmps167
   go_wp2_with (first |((with_reducible refine Qij (f:=216) rfl ?_);refine Qgm (some 8) rfl rfl Tryz.func216 qq_7 rfl #[.int .u32 a0] rfl qq_1 ?_;(with_reducible refine(Qai.calls a0 false _ A3.out).mono ?_);rintro e w' ⟨rfl,⟨nd,rfl⟩⟩;refine⟨_,rfl,?_⟩) |((with_reducible refine Qij (f:=216) rfl ?_);refine Qgm (some 10) rfl rfl Tryz.func216 qq_7 rfl #[.int .u32 a1] rfl qq_1 ?_;(with_reducible refine(Qai.calls a1 true _ A4.out).mono ?_);rintro e w' ⟨rfl,⟨nd,rfl⟩⟩;refine⟨_,rfl,?_⟩))
   go_ret
   exact⟨by first|rfl |(simp;done) |(simp[*];done),by repeat(first|exact Drawn0.refl _|apply Drawn0.step)⟩
  ·replace c7:=Bool.eq_false_iff.mpr c7;subst c7;rw[if_neg (show ¬(false=true)by decide)]at H
   by_cases c8:a0<a1
   ·rw[if_pos c8]at H;have g:=decide_eq_true c8;clear c8;obtain rfl:=Option.some.inj H
    go_enter Tryz.func167,Tryz.ntmps167
    go_wp2_with (first |((with_reducible refine Qij (f:=216) rfl ?_);refine Qgm (some 8) rfl rfl Tryz.func216 qq_7 rfl #[.int .u32 a0] rfl qq_1 ?_;(with_reducible refine(Qai.calls a0 false _ A3.out).mono ?_);rintro e w' ⟨rfl,⟨nd,rfl⟩⟩;refine⟨_,rfl,?_⟩) |((with_reducible refine Qij (f:=216) rfl ?_);refine Qgm (some 10) rfl rfl Tryz.func216 qq_7 rfl #[.int .u32 a1] rfl qq_1 ?_;(with_reducible refine(Qai.calls a1 false _ A4.out).mono ?_);rintro e w' ⟨rfl,⟨nd,rfl⟩⟩;refine⟨_,rfl,?_⟩))
    go_ret
    exact⟨by first|rfl |(simp;done) |(simp[*];done),by repeat(first|exact Drawn0.refl _|apply Drawn0.step)⟩
   ·rw[if_neg c8]at H;have g:=decide_eq_false c8;clear c8
    by_cases c9:a0 > a1
    ·rw[if_pos c9]at H;have j:decide (a1<a0)=true:=decide_eq_true c9;clear c9;obtain rfl:=Option.some.inj H
     go_enter Tryz.func167,Tryz.ntmps167
     go_wp2_with (first |((with_reducible refine Qij (f:=216) rfl ?_);refine Qgm (some 8) rfl rfl Tryz.func216 qq_7 rfl #[.int .u32 a0] rfl qq_1 ?_;(with_reducible refine(Qai.calls a0 false _ A3.out).mono ?_);rintro e w' ⟨rfl,⟨nd,rfl⟩⟩;refine⟨_,rfl,?_⟩) |((with_reducible refine Qij (f:=216) rfl ?_);refine Qgm (some 10) rfl rfl Tryz.func216 qq_7 rfl #[.int .u32 a1] rfl qq_1 ?_;(with_reducible refine(Qai.calls a1 false _ A4.out).mono ?_);rintro e w' ⟨rfl,⟨nd,rfl⟩⟩;refine⟨_,rfl,?_⟩))
     go_ret
     exact⟨by first|rfl |(simp;done) |(simp[*];done),by repeat(first|exact Drawn0.refl _|apply Drawn0.step)⟩
    ·rw[if_neg c9]at H;have j:decide (a1<a0)=false:=decide_eq_false c9;clear c9;obtain rfl:=Option.some.inj H
     go_enter Tryz.func167,Tryz.ntmps167
     go_wp2_with (first |((with_reducible refine Qij (f:=216) rfl ?_);refine Qgm (some 8) rfl rfl Tryz.func216 qq_7 rfl #[.int .u32 a0] rfl qq_1 ?_;(with_reducible refine(Qai.calls a0 false _ A3.out).mono ?_);rintro e w' ⟨rfl,⟨nd,rfl⟩⟩;refine⟨_,rfl,?_⟩) |((with_reducible refine Qij (f:=216) rfl ?_);refine Qgm (some 10) rfl rfl Tryz.func216 qq_7 rfl #[.int .u32 a1] rfl qq_1 ?_;(with_reducible refine(Qai.calls a1 false _ A4.out).mono ?_);rintro e w' ⟨rfl,⟨nd,rfl⟩⟩;refine⟨_,rfl,?_⟩))
     go_ret
     exact⟨by first|rfl |(simp;done) |(simp[*];done),by repeat(first|exact Drawn0.refl _|apply Drawn0.step)⟩
def Qaj.f(a0:Int):Option (Bool):=some (a0 != a0)
theorem Qaj.calls(a0:Int)(r:Bool)(w:World)(h:Qaj.f a0=some r) :
  Calls Tryz.prog 215 #[.int .u64 a0] w fun e w'=>e=.returned (.bool r)∧Drawn0 w w':=by
 have H:(some (a0 != a0))=some r:=h;clear h;obtain rfl:=Option.some.inj H
 go_enter Tryz.func215,Tryz.ntmps215
 go_wp2;go_ret
 exact⟨by first|rfl |(simp;done) |(simp[*];done),by repeat(first|exact Drawn0.refl _|apply Drawn0.step)⟩
def Qag.f(a0:Int)(a1:Int):Option (Int):=(Qaj.f a0).bind fun t209=>((Qaj.f a1).bind fun t210=>(if t209=true then(if t210=true then(some 0)else(some (-1)))else(if t210=true then(some 1)else(if a0<a1 then(some (-1))else(if a0 > a1 then(some 1)else(some 0))))))
theorem Qag.calls(a0:Int)(a1:Int)(r:Int)(w:World)(h:Qag.f a0 a1=some r) :
  Calls Tryz.prog 166 #[.int .u64 a0,.int .u64 a1] w fun e w'=>e=.returned (.int .i64 r)∧Drawn0 w w':=by
 have H:((Qaj.f a0).bind fun b=>((Qaj.f a1).bind fun a=>(if b=true then(if a=true then(some 0)else(some (-1)))else(if a=true then(some 1)else(if a0<a1 then(some (-1))else(if a0 > a1 then(some 1)else(some 0)))))))=some r:=h;clear h;obtain⟨b,c,H⟩:=Option.bind_eq_some_iff.mp H;have A3:=QA c;clear c;obtain⟨a,d,H⟩:=Option.bind_eq_some_iff.mp H;have A4:=QA d;clear d
 by_cases c5:b=true
 ·subst c5;rw[if_pos rfl]at H
  by_cases c6:a=true
  ·subst c6;rw[if_pos rfl]at H;obtain rfl:=Option.some.inj H
   go_enter Tryz.func166,Tryz.ntmps166
   go_wp2_with (first |((with_reducible refine Qij (f:=215) rfl ?_);refine Qgm (some 8) rfl rfl Tryz.func215 qq_7 rfl #[.int .u64 a0] rfl qq_1 ?_;(with_reducible refine(Qaj.calls a0 true _ A3.out).mono ?_);rintro e w' ⟨rfl,⟨nd,rfl⟩⟩;refine⟨_,rfl,?_⟩) |((with_reducible refine Qij (f:=215) rfl ?_);refine Qgm (some 10) rfl rfl Tryz.func215 qq_7 rfl #[.int .u64 a1] rfl qq_1 ?_;(with_reducible refine(Qaj.calls a1 true _ A4.out).mono ?_);rintro e w' ⟨rfl,⟨nd,rfl⟩⟩;refine⟨_,rfl,?_⟩))
   go_ret
   exact⟨by first|rfl |(simp;done) |(simp[*];done),by repeat(first|exact Drawn0.refl _|apply Drawn0.step)⟩
  ·replace c6:=Bool.eq_false_iff.mpr c6;subst c6;rw[if_neg (show ¬(false=true)by decide)]at H;obtain rfl:=Option.some.inj H
   go_enter Tryz.func166,Tryz.ntmps166
   go_wp2_with (first |((with_reducible refine Qij (f:=215) rfl ?_);refine Qgm (some 8) rfl rfl Tryz.func215 qq_7 rfl #[.int .u64 a0] rfl qq_1 ?_;(with_reducible refine(Qaj.calls a0 true _ A3.out).mono ?_);rintro e w' ⟨rfl,⟨nd,rfl⟩⟩;refine⟨_,rfl,?_⟩) |((with_reducible refine Qij (f:=215) rfl ?_);refine Qgm (some 10) rfl rfl Tryz.func215 qq_7 rfl #[.int .u64 a1] rfl qq_1 ?_;(with_reducible refine(Qaj.calls a1 false _ A4.out).mono ?_);rintro e w' ⟨rfl,⟨nd,rfl⟩⟩;refine⟨_,rfl,?_⟩))
   go_ret
   exact⟨by first|rfl |(simp;done) |(simp[*];done),by repeat(first|exact Drawn0.refl _|apply Drawn0.step)⟩
 ·replace c5:=Bool.eq_false_iff.mpr c5;subst c5;rw[if_neg (show ¬(false=true)by decide)]at H
  by_cases c7:a=true
  ·subst c7;rw[if_pos rfl]at H;obtain rfl:=Option.some.inj H
   go_enter Tryz.func166,Tryz.ntmps166
   go_wp2_with (first |((with_reducible refine Qij (f:=215) rfl ?_);refine Qgm (some 8) rfl rfl Tryz.func215 qq_7 rfl #[.int .u64 a0] rfl qq_1 ?_;(with_reducible refine(Qaj.calls a0 false _ A3.out).mono ?_);rintro e w' ⟨rfl,⟨nd,rfl⟩⟩;refine⟨_,rfl,?_⟩) |((with_reducible refine Qij (f:=215) rfl ?_);refine Qgm (some 10) rfl rfl Tryz.func215 qq_7 rfl #[.int .u64 a1] rfl qq_1 ?_;(with_reducible refine(Qaj.calls a1 true _ A4.out).mono ?_);rintro e w' ⟨rfl,⟨nd,rfl⟩⟩;refine⟨_,rfl,?_⟩))
   go_ret
   exact⟨by first|rfl |(simp;done) |(simp[*];done),by repeat(first|exact Drawn0.refl _|apply Drawn0.step)⟩
  ·replace c7:=Bool.eq_false_iff.mpr c7;subst c7;rw[if_neg (show ¬(false=true)by decide)]at H
   by_cases c8:a0<a1
   ·rw[if_pos c8]at H;have g:=decide_eq_true c8;clear c8;obtain rfl:=Option.some.inj H
    go_enter Tryz.func166,Tryz.ntmps166
    go_wp2_with (first |((with_reducible refine Qij (f:=215) rfl ?_);refine Qgm (some 8) rfl rfl Tryz.func215 qq_7 rfl #[.int .u64 a0] rfl qq_1 ?_;(with_reducible refine(Qaj.calls a0 false _ A3.out).mono ?_);rintro e w' ⟨rfl,⟨nd,rfl⟩⟩;refine⟨_,rfl,?_⟩) |((with_reducible refine Qij (f:=215) rfl ?_);refine Qgm (some 10) rfl rfl Tryz.func215 qq_7 rfl #[.int .u64 a1] rfl qq_1 ?_;(with_reducible refine(Qaj.calls a1 false _ A4.out).mono ?_);rintro e w' ⟨rfl,⟨nd,rfl⟩⟩;refine⟨_,rfl,?_⟩))
    go_ret
    exact⟨by first|rfl |(simp;done) |(simp[*];done),by repeat(first|exact Drawn0.refl _|apply Drawn0.step)⟩
   ·rw[if_neg c8]at H;have g:=decide_eq_false c8;clear c8
    by_cases c9:a0 > a1
    ·rw[if_pos c9]at H;have j:decide (a1<a0)=true:=decide_eq_true c9;clear c9;obtain rfl:=Option.some.inj H
     go_enter Tryz.func166,Tryz.ntmps166
     go_wp2_with (first |((with_reducible refine Qij (f:=215) rfl ?_);refine Qgm (some 8) rfl rfl Tryz.func215 qq_7 rfl #[.int .u64 a0] rfl qq_1 ?_;(with_reducible refine(Qaj.calls a0 false _ A3.out).mono ?_);rintro e w' ⟨rfl,⟨nd,rfl⟩⟩;refine⟨_,rfl,?_⟩) |((with_reducible refine Qij (f:=215) rfl ?_);refine Qgm (some 10) rfl rfl Tryz.func215 qq_7 rfl #[.int .u64 a1] rfl qq_1 ?_;(with_reducible refine(Qaj.calls a1 false _ A4.out).mono ?_);rintro e w' ⟨rfl,⟨nd,rfl⟩⟩;refine⟨_,rfl,?_⟩))
     go_ret
     exact⟨by first|rfl |(simp;done) |(simp[*];done),by repeat(first|exact Drawn0.refl _|apply Drawn0.step)⟩
    ·rw[if_neg c9]at H;have j:decide (a1<a0)=false:=decide_eq_false c9;clear c9;obtain rfl:=Option.some.inj H
     go_enter Tryz.func166,Tryz.ntmps166
     go_wp2_with (first |((with_reducible refine Qij (f:=215) rfl ?_);refine Qgm (some 8) rfl rfl Tryz.func215 qq_7 rfl #[.int .u64 a0] rfl qq_1 ?_;(with_reducible refine(Qaj.calls a0 false _ A3.out).mono ?_);rintro e w' ⟨rfl,⟨nd,rfl⟩⟩;refine⟨_,rfl,?_⟩) |((with_reducible refine Qij (f:=215) rfl ?_);refine Qgm (some 10) rfl rfl Tryz.func215 qq_7 rfl #[.int .u64 a1] rfl qq_1 ?_;(with_reducible refine(Qaj.calls a1 false _ A4.out).mono ?_);rintro e w' ⟨rfl,⟨nd,rfl⟩⟩;refine⟨_,rfl,?_⟩))
     go_ret
     exact⟨by first|rfl |(simp;done) |(simp[*];done),by repeat(first|exact Drawn0.refl _|apply Drawn0.step)⟩
def Qah.l0:Nat→Int→List Int→Int→Int→Option (Int)
 | 0,_,_,_,_=>none
 | k+1,x3,x6,x7,x8=>if x8<x7 then(if 0≤x8 then(if x8<(x6.length:Int)then(if(rd x6 x8)=x3 then(Qah.l0 k x3 x6 x7 (wrap64 (x8+1)))else(some (rd x6 x8)))else(none))else(none))else(some x3)
def Qah.f(k:Nat)(l0:List Int):Option (Int):=Qah.l0 k 0 l0 (l0.length:Int) 0
theorem Qah.mono_l:∀k,(∀y0 y1 y2 y3,LeO (Qah.l0 k y0 y1 y2 y3) (Qah.l0 (k+1) y0 y1 y2 y3))
 | 0=>fun _ _ _ _ r h=>by simp[Qah.l0]at h
 | k+1=>by
  have ih0:=Qah.mono_l k
  ·intro y0 y1 y2 y3;unfold Qah.l0
   repeat' first
   |(with_reducible exact ih0 _ _ _ _)
   |(with_reducible exact LeO.refl _)
   |(with_reducible exact LeO.none _)
   |(with_reducible refine LeO.ite ?_ ?_)
   |(with_reducible refine LeO.bind ?_ (fun _=>?_))
   | exact ih0 _ _ _ _
   | exact LeO.none _
   | refine LeO.ite ?_ ?_
   | refine LeO.bind ?_ (fun _=>?_)
theorem Qah.mono:∀a0 k,LeO (Qah.f k a0) (Qah.f (k+1) a0):=by
 intro a0 k;have ih0:=Qah.mono_l k;unfold Qah.f
 repeat' first
   |(with_reducible exact ih0 _ _ _ _)
   |(with_reducible exact LeO.refl _)
   |(with_reducible exact LeO.none _)
   |(with_reducible refine LeO.ite ?_ ?_)
   |(with_reducible refine LeO.bind ?_ (fun _=>?_))
   | exact ih0 _ _ _ _
   | exact LeO.none _
   | refine LeO.ite ?_ ?_
   | refine LeO.bind ?_ (fun _=>?_)
theorem Qah.calls(k:Nat)(A0:Option Addr)(c0:Nat)(l0:List Int)(r:Int)(w:World)(hr0:Kd.C (Kd.int .i64) w A0 l0.length l0)(hc0:l0.length≤c0)(h:Qah.f k l0=some r) :
  Calls Tryz.prog 165 #[.slice A0 l0.length c0] w fun e w'=>e=.returned (.int .i64 r)∧Drawn0 w w':=by
 have l:=QA hr0;have s:=QA hc0;clear hr0 hc0;have H:(Qah.l0 k 0 l0 (l0.length:Int) 0)=some r:=h;clear h;have H':=QA H;clear H
 go_enter Tryz.func165,Tryz.ntmps165
 go_wp2
 go_loopg [8] k (fun kq v8 w'=>∃(a:Int),v8=.int .i64 a∧Aside0 (Qah.l0 kq 0 l0 (l0.length:Int) a=some r)∧Aside0 (kq≤k)∧Drawn0 w w')
 case atStart=>exact⟨(0),qq_4,H',⟨Nat.le_refl _⟩,by repeat(first|exact Drawn0.refl _|apply Drawn0.step)⟩
 case round =>
  clear H';obtain⟨a,rfl,HA,HK1,⟨m1,rfl⟩⟩:=hrel
  cases gk with
  | zero=>exact absurd HA.out (by simp[Qah.l0])
  | succ k1 =>
   have H:=HA.out;clear HA;simp only[Qah.l0]at H
   by_cases c2:a<(l0.length:Int)
   ·rw [if_pos c2]at H;have m:=decide_eq_true c2;clear c2
    by_cases c3:0≤a
    ·rw[if_pos c3]at H;have p:=decide_eq_true c3;clear c3
     by_cases c4:a<(l0.length:Int)
     ·rw[if_pos c4]at H;have q:=decide_eq_true c4;clear c4
      by_cases c5:(rd l0 a)=0
      ·rw[if_pos c5]at H;have n:((rd l0 a) == 0)=true:=beq_iff_eq.mpr c5;have o:((rd l0 a) != 0)=false:=bne_eq_false_iff_eq.mpr c5;clear c5;have H':=QA H;clear H;have b:0≤(a:Int):=of_decide_eq_true qq_3;have c:a<(l0.length:Int):=of_decide_eq_true qq_3;obtain⟨j,d,g⟩:=Kd.at_int l.out a b c
       cases d
       replace b:=eq_true b;replace c:=eq_true c;go_wp2
       go_roundg k1
       case measure=>have:=HK1.out;omega
       case rel=>exact⟨(wrap64 (a+1)),qq_4,H',⟨by have:=HK1.out;omega⟩,by repeat(first|exact Drawn0.refl _|apply Drawn0.step)⟩
      ·rw[if_neg c5]at H;have n:((rd l0 a) == 0)=false:=beq_eq_false_iff_ne.mpr c5;have o:((rd l0 a) != 0)=true:=bne_iff_ne.mpr c5;obtain rfl:=Option.some.inj H;have b:0≤(a:Int):=of_decide_eq_true qq_3;have c:a<(l0.length:Int):=of_decide_eq_true qq_3;obtain⟨j,d,g⟩:=Kd.at_int l.out a b c
       cases d
       replace b:=eq_true b;replace c:=eq_true c;go_wp2;go_ret
       exact⟨by first|rfl |(simp;done) |(simp[*];done),by repeat(first|exact Drawn0.refl _|apply Drawn0.step)⟩
     ·rw[if_neg c4]at H;exact absurd H (by simp)
    ·rw[if_neg c3]at H;exact absurd H (by simp)
   ·rw[if_neg c2]at H;have m:=decide_eq_false c2;clear c2;obtain rfl:=Option.some.inj H;go_wp2;go_ret
    exact⟨by first|rfl |(simp;done) |(simp[*];done),by repeat(first|exact Drawn0.refl _|apply Drawn0.step)⟩
def Qbd.f:Nat→Int→Option (ByteArray)
 | 0,_=>none
 | k+1,a0=>if a0<128 then(some (strOfNums (([(a0)%256]:List Int))))else((some (([(IntKind.u64.wrap (128+(Int.tmod a0 128)))%256]:List Int):List Int)).bind fun y295=>((Qbd.f k (IntKind.u64.wrap (Int.tdiv a0 128))).bind fun t298=>(if(strOfNums y295).size+t298.size≤9223372036854775807 then(some ((strOfNums y295)++t298))else(none))))
def Qbd.T3:Bool × List (List Nat × List Nat):=(true,[([],[]),([0],[0]),([1],[1]),([2],[2]),([3],[3]),([4],[4]),([],[]),([6],[6]),([7],[7]),([5,8],[5,8]),([9,8,0,1,2,3,4,5,6,7,8,9],[9])])
def Qbd.B3:List Nat:=[0,1,3,7,15,31,0,64,192,511,1023]
theorem Qbd.tab3:rtab .any (Qhu Tryz.f98 3)=Qbd.T3:=by kernel_rfl
theorem Qbd.bits3:Qho Qbd.T3.2 Qbd.B3=true:=by kernel_rfl
theorem Qbd.calls(k:Nat):∀(a0:Int) (r:ByteArray) (w:World) (h:Qbd.f k a0=some r),
  Calls Tryz.prog 98 #[.int .u64 a0] w fun e w'=>e=.returned (.string r)∧Below w.heap.size w w':=by
 induction k using Nat.strongRecOn with
 | _ k ih =>
 intro a0 r w h
 cases k with
 | zero=>exact absurd h (by simp[Qbd.f])
 | succ k =>
 simp only[Qbd.f]at h;have HB:=QA (Below.refl w.heap.size w);have H:(if a0<128 then(some (strOfNums (([(a0)%256]:List Int))))else((some (([(IntKind.u64.wrap (128+(Int.tmod a0 128)))%256]:List Int):List Int)).bind fun d=>((Qbd.f k (IntKind.u64.wrap (Int.tdiv a0 128))).bind fun b=>(if(strOfNums d).size+b.size≤9223372036854775807 then(some ((strOfNums d)++b))else(none)))))=some r:=h;clear h
 by_cases c2:a0<128
 ·rw[if_pos c2]at H;have J:=decide_eq_true c2;clear c2;obtain⟨L,g⟩:∃y_:List Int,y_=(([(a0)%256]:List Int)):=⟨_,rfl⟩;replace H:(some (strOfNums L))=some r:=by first |(rw[g];with_reducible exact H) |(have p:=(Option.bind_some _ _).symm.trans H;rw[g];with_reducible exact p) |(have p:=(Option.bind_some _ _).symm.trans H;with_reducible exact p)|with_reducible exact H |(rw[g];exact H)|exact H
  have x:=QA g;clear g;obtain rfl:=Option.some.inj H
  go_enter Tryz.func98,Tryz.ntmps98
  go_wp2_with (first |((with_reducible refine Qft (N:=7) rfl ?_);refine Kd.R_lit (Kd.int .u8) _ 5 ?hg (N:=7) ?hd (xs:=([(a0)%256]:List Int)) (inner:=[.int .u8 ((a0)%256)]) (ok:=fun _=>True) (okp:=fun _=>True) ?hr ?hp (fun _ hk=>hk) trivial (Below.refl _ _) (Nat.le_refl _) (by simp) ?_;(case hd=>rfl);(case hg=>rfl);(case hr=>exact qq_18);(case hp=>exact(Reps.one (show Kd.M (Kd.int .u8) _ _ _ ((a0)%256) [.int .u8 ((a0)%256)] from rfl) (Reps.none _ _)));intro O w3 u hb hg_ hnew_;clear hg_ hnew_;(first|rw[← x.out]at u |(simp only[Int.reduceToNat]at u;rw[← x.out]at u));have n_:=qn2 (Kd.R_lower u (Qfi qq_b)) (Qfj qq_b hb);clear HB;obtain⟨y,HB⟩:=n_;clear hb u;have T:=Qdg (P:=Tryz.prog) Tryz.underlying52 Tryz.underlying5 Tryz.underlying9 (Kd.own_of_R y.out)))
  go_ret
  exact⟨qq_2,qq_b⟩
 ·rw [if_neg c2]at H;have J:=decide_eq_false c2;clear c2;obtain⟨d,l⟩:∃y_:List Int,y_=(([(IntKind.u64.wrap (128+(Int.tmod a0 128)))%256]:List Int)):=⟨_,rfl⟩;replace H:((Qbd.f k (IntKind.u64.wrap (Int.tdiv a0 128))).bind fun b=>(if(strOfNums d).size+b.size≤9223372036854775807 then(some ((strOfNums d)++b))else(none)))=some r:=by first |(rw[l];with_reducible exact H) |(have p:=(Option.bind_some _ _).symm.trans H;rw[l];with_reducible exact p) |(have p:=(Option.bind_some _ _).symm.trans H;with_reducible exact p)|with_reducible exact H |(rw[l];exact H)|exact H
  have o:=QA l;clear l;obtain⟨b,A,H⟩:=Option.bind_eq_some_iff.mp H;have A6:=QA A;clear A
  by_cases c7:(strOfNums d).size+b.size≤9223372036854775807
  ·rw [if_pos c7]at H;have U:=eq_true c7;have W:=decide_eq_true c7
   try have X:(9223372036854775807<(strOfNums d).size+b.size)=False:=eq_false (Nat.not_lt.2 c7)
   obtain rfl:=Option.some.inj H
   go_enter Tryz.func98,Tryz.ntmps98
   try go_wp2
   have n_:=qn1 (Qfq HB.out);clear HB;have HB:=n_;clear n_;refine Qge (n:=11) (S:=fun w'=>True) (ds:=[]) (bm 11 0) qq_7 rfl rfl trivial (fun a=>?_);refine Qhs Qbd.tab3 Qbd.bits3 (fun HT_ HW_=>?_);generalize w.drew=w8 at HB a ⊢;refine pz_ (i:=0) (N:=some 9) (bm 11 1) (Qhk HT_.out qq_7) ?_;refine pz_ (i:=1) (N:=some 10) (bm 11 3) (Qhk HT_.out qq_7) ?_;refine pz_ (i:=2) (N:=some 11) (bm 11 7) (Qhk HT_.out qq_7) ?_;refine pz_ (i:=3) (N:=some 12) (bm 11 15) (Qhk HT_.out qq_7) ?_;refine pz_ (i:=6) (N:=some 15) (bm 11 79) (Qhk HT_.out qq_7) ?_;refine pz_ (i:=7) (N:=some 16) (bm 11 207) (Qhk HT_.out qq_7) ?_;refine join_ (σ:=Value) 2 (bm 11 511) (fun s_=>[(13,s_),(14,.string (strOfNums d)),(17,.string b)]) (fun s_ w'=>(Kd.R (Kd.int .u8) 5 w' w.heap.size (fun _=>True) s_ d)∧(Below w.heap.size w w')) ?_ ?_;rotate_left
   ·intro hCont;refine two_ (i:=4) (j:=8) (Ni:=some 13) (Nj:=some 17) (bm 11 223) (bm 11 463) rfl rfl rfl rfl (Qhm HT_.out qq_7) (by decide) (by decide) (fun K hK=>?_) (fun K hK=>?_)
    ·skip
     refine Kd.R_lit_step (Kd.int .u8) _ 5 ?hg (N:=13) ?hd (xs:=([(IntKind.u64.wrap (128+(Int.tmod a0 128)))%256]:List Int)) (inner:=[.int .u8 ((IntKind.u64.wrap (128+(Int.tmod a0 128)))%256)]) (ok:=fun _=>True) (okp:=fun _=>True) ?hr ?hp (fun _ hk=>hk) trivial (Below.refl _ _) (Nat.le_refl _) (by simp) ?_;(case hd=>rfl);(case hg=>rfl);(case hr=>exact qq_18);(case hp=>exact(Reps.one (show Kd.M (Kd.int .u8) _ _ _ ((IntKind.u64.wrap (128+(Int.tmod a0 128)))%256) [.int .u8 ((IntKind.u64.wrap (128+(Int.tmod a0 128)))%256)] from rfl) (Reps.none _ _)));intro m w9 q hb hg_ hnew_;clear hg_ hnew_
     (first|rw[← o.out]at q |(simp only[Int.reduceToNat]at q;rw[← o.out]at q))
     have n_:=qn2 (Kd.R_lower q (Qfi qq_b)) (Qfj qq_b hb);clear HB;obtain⟨c,HB⟩:=n_;clear hb q;refine hK.out _ _ trivial (fun a=>?_);clear hK K;refine nzp_ 13 ?_;refine two_ (i:=5) (j:=8) (Ni:=some 14) (Nj:=some 17) (bm 11 255) (bm 11 479) rfl rfl rfl rfl (Qhm HT_.out qq_7) (by decide) (by decide) (fun K hK=>?_) (fun K hK=>?_)
     ·skip
      have z:=Qdg (P:=Tryz.prog) Tryz.underlying52 Tryz.underlying5 Tryz.underlying9 (Kd.own_of_R c.out);refine Qgn (w1:=?_) (v:=?_) (by rfl) rfl ?_ ?_;rotate_left 2
      ·go_simp
       constructor
       ·rfl
       ·rfl
      clear z;refine hK.out _ _ trivial (fun a=>?_);clear hK K;refine nzp_ 14 ?_;refine one_ (i:=8) (N:=some 17) (bm 11 511) rfl rfl (Qhl HT_.out qq_7) (by decide) (fun K hK=>?_);refine Qgl Tryz.func98 qq_7 rfl #[.int .u64 (IntKind.u64.wrap (Int.tdiv a0 128))] (by rfl) rfl rfl qq_1 ?_;with_reducible refine(ih k (by omega) (IntKind.u64.wrap (Int.tdiv a0 128)) b _ A6.out).mono ?_
      rintro e Y ⟨rfl,hb⟩;refine⟨_,rfl,?_⟩;have n_:=qn2 (Kd.R_below qq_8 hb) (Qfj qq_b hb);clear c HB;obtain⟨c,HB⟩:=n_
      (try clear hb)
      (try clear hb2)
      (try clear hk)
      (try clear hi)
      refine hK.out _ _ trivial (fun a=>?_);clear hK K;refine nzp_ 17 ?_;exact Qgj (by simp only[Qgi,Act.put,List.setIfInBounds_toArray,List.set_cons_zero,List.set_cons_succ]) (hCont (m) _ ⟨qq_8,qq_b⟩)
     ·skip
      refine Qgl Tryz.func98 qq_7 rfl #[.int .u64 (IntKind.u64.wrap (Int.tdiv a0 128))] (by rfl) rfl rfl qq_1 ?_;with_reducible refine(ih k (by omega) (IntKind.u64.wrap (Int.tdiv a0 128)) b _ A6.out).mono ?_
      rintro e Z ⟨rfl,hb⟩;refine⟨_,rfl,?_⟩;have n_:=qn2 (Kd.R_below qq_8 hb) (Qfj qq_b hb);clear c HB;obtain⟨c,HB⟩:=n_
      (try clear hb)
      (try clear hb2)
      (try clear hk)
      (try clear hi)
      refine hK.out _ _ trivial (fun a=>?_);clear hK K;refine nzp_ 17 ?_;refine one_ (i:=5) (N:=some 14) (bm 11 511) rfl rfl (Qhl HT_.out qq_7) (by decide) (fun K hK=>?_);have t:=Qdg (P:=Tryz.prog) Tryz.underlying52 Tryz.underlying5 Tryz.underlying9 (Kd.own_of_R c.out);refine Qgn (w1:=?_) (v:=?_) (by rfl) rfl ?_ ?_;rotate_left 2
      ·go_simp
       constructor
       ·rfl
       ·rfl
      clear t;refine hK.out _ _ trivial (fun a=>?_);clear hK K;refine nzp_ 14 ?_;exact Qgj (by simp only[Qgi,Act.put,List.setIfInBounds_toArray,List.set_cons_zero,List.set_cons_succ]) (hCont (m) _ ⟨qq_8,qq_b⟩)
    ·skip
     refine Qgl Tryz.func98 qq_7 rfl #[.int .u64 (IntKind.u64.wrap (Int.tdiv a0 128))] (by rfl) rfl rfl qq_1 ?_;with_reducible refine(ih k (by omega) (IntKind.u64.wrap (Int.tdiv a0 128)) b _ A6.out).mono ?_
     rintro e w9 ⟨rfl,hb⟩;refine⟨_,rfl,?_⟩;have n_:=qn1 (Qfj qq_b hb);clear HB;have HB:=n_;clear n_
     (try clear hb)
     (try clear hb2)
     (try clear hk)
     (try clear hi)
     refine hK.out _ _ trivial (fun a=>?_);clear hK K;refine nzp_ 17 ?_;refine one_ (i:=4) (N:=some 13) (bm 11 479) rfl rfl (Qhl HT_.out qq_7) (by decide) (fun K hK=>?_);refine Kd.R_lit_step (Kd.int .u8) _ 5 ?hg (N:=13) ?hd (xs:=([(IntKind.u64.wrap (128+(Int.tmod a0 128)))%256]:List Int)) (inner:=[.int .u8 ((IntKind.u64.wrap (128+(Int.tmod a0 128)))%256)]) (ok:=fun _=>True) (okp:=fun _=>True) ?hr ?hp (fun _ hk=>hk) trivial (Below.refl _ _) (Nat.le_refl _) (by simp) ?_;(case hd=>rfl);(case hg=>rfl);(case hr=>exact qq_18);(case hp=>exact(Reps.one (show Kd.M (Kd.int .u8) _ _ _ ((IntKind.u64.wrap (128+(Int.tmod a0 128)))%256) [.int .u8 ((IntKind.u64.wrap (128+(Int.tmod a0 128)))%256)] from rfl) (Reps.none _ _)));intro m aa s hb hg_ hnew_;clear hg_ hnew_
     (first|rw[← o.out]at s |(simp only[Int.reduceToNat]at s;rw[← o.out]at s))
     have n_:=qn2 (Kd.R_lower s (Qfi qq_b)) (Qfj qq_b hb);clear HB;obtain⟨c,HB⟩:=n_;clear hb s;refine hK.out _ _ trivial (fun a=>?_);clear hK K;refine nzp_ 13 ?_;refine one_ (i:=5) (N:=some 14) (bm 11 511) rfl rfl (Qhl HT_.out qq_7) (by decide) (fun K hK=>?_);have t:=Qdg (P:=Tryz.prog) Tryz.underlying52 Tryz.underlying5 Tryz.underlying9 (Kd.own_of_R c.out);refine Qgn (w1:=?_) (v:=?_) (by rfl) rfl ?_ ?_;rotate_left 2
     ·go_simp
      constructor
      ·rfl
      ·rfl
     clear t;refine hK.out _ _ trivial (fun a=>?_);clear hK K;refine nzp_ 14 ?_;exact Qgj (by simp only[Qgi,Act.put,List.setIfInBounds_toArray,List.set_cons_zero,List.set_cons_succ]) (hCont (m) _ ⟨qq_8,qq_b⟩)
   rintro m B ⟨D,E⟩;have G:Aside0 (Kd.R (Kd.int .u8) 5 B w.heap.size (fun _=>True) m d):=⟨D⟩;have I:Aside0 (Below w.heap.size w B):=⟨E⟩;clear HB D E;have c:=G;have HB:=I;clear G I;have a:=trivial;refine nza_ ?_;refine pz_ (i:=9) (N:=some 18) (bm 11 1023) (Qhk HT_.out qq_7) ?_;refine pz_ (i:=10) (N:=some 2) (bm 11 2047) (Qhk HT_.out qq_7) ?_;refine Qgh (Qhn HT_.out qq_7) ?_
   try go_wp2
   go_ret
   exact⟨qq_2,qq_b⟩
  ·rw[if_neg c7]at H;exact absurd H (by simp)
def Qay.l0:Nat→Int→ByteArray→Int→Int→Option (ByteArray)
 | 0,_,_,_,_=>none
 | k+1,x0,x5,x6,x7=>if x7<x6 then((some (([(Int.tmod x0 256)%256]:List Int):List Int)).bind fun y286=>(if x5.size+(strOfNums y286).size≤9223372036854775807 then(Qay.l0 k (IntKind.u64.wrap (Int.tdiv x0 256)) (x5++(strOfNums y286)) x6 (wrap64 (x7+1)))else(none)))else(some x5)
def Qay.f(k:Nat)(a0:Int)(a1:Int):Option (ByteArray):=Qay.l0 k a0 (⟨#[]⟩:ByteArray) a1 0
theorem Qay.calls(k:Nat)(a0:Int)(a1:Int)(r:ByteArray)(w:World)(h:Qay.f k a0 a1=some r) :
  Calls Tryz.prog 103 #[.int .u64 a0,.int .i64 a1] w fun e w'=>e=.returned (.string r)∧Below w.heap.size w w':=by
 have HB:=QA (Below.refl w.heap.size w);have H:(Qay.l0 k a0 (⟨#[]⟩:ByteArray) a1 0)=some r:=h;clear h;have H':=QA H;clear H
 go_enter Tryz.func103,Tryz.ntmps103
 go_wp2
 go_loopg [0,5,7] k (fun kq v0 v5 v7 w'=>∃(a:Int) (b:ByteArray) (d:Int),v0=.int .u64 a∧v5=.string b∧v7=.int .i64 d∧Aside0 (Qay.l0 kq a b a1 d=some r)∧Aside0 (kq≤k)∧Aside0 (Below w.heap.size w w'))
 case atStart=>exact⟨(a0),((⟨#[]⟩:ByteArray)),(0),qq_4,qq_4,qq_4,H',⟨Nat.le_refl _⟩,⟨qq_b⟩⟩
 case round =>
  clear H';obtain⟨a,b,d,rfl,rfl,rfl,HA,HK1,HB⟩:=hrel
  cases gk with
  | zero=>exact absurd HA.out (by simp[Qay.l0])
  | succ k1 =>
   have H:=HA.out;clear HA;simp only[Qay.l0]at H
   by_cases c3:d<a1
   ·rw[if_pos c3]at H;have o:=decide_eq_true c3;clear c3;obtain⟨g,c⟩:∃y_:List Int,y_=(([(Int.tmod a 256)%256]:List Int)):=⟨_,rfl⟩;replace H:(if b.size+(strOfNums g).size≤9223372036854775807 then(Qay.l0 k1 (IntKind.u64.wrap (Int.tdiv a 256)) (b++(strOfNums g)) a1 (wrap64 (d+1)))else(none))=some r:=by first |(rw[c];with_reducible exact H) |(have m:=(Option.bind_some _ _).symm.trans H;rw[c];with_reducible exact m) |(have m:=(Option.bind_some _ _).symm.trans H;with_reducible exact m)|with_reducible exact H |(rw[c];exact H)|exact H
    have l:=QA c;clear c
    by_cases c4:b.size+(strOfNums g).size≤9223372036854775807
    ·rw[if_pos c4]at H;have p:=eq_true c4;have q:=decide_eq_true c4
     try have s:(9223372036854775807<b.size+(strOfNums g).size)=False:=eq_false (Nat.not_lt.2 c4)
     have H':=QA H;clear H
     go_wp2_with (first |((with_reducible refine Qft (N:=13) rfl ?_);refine Kd.R_lit (Kd.int .u8) _ 5 ?hg (N:=13) ?hd (xs:=([(Int.tmod a 256)%256]:List Int)) (inner:=[.int .u8 ((Int.tmod a 256)%256)]) (ok:=fun _=>True) (okp:=fun _=>True) ?hr ?hp (fun _ hk=>hk) trivial (Below.refl _ _) (Nat.le_refl _) (by simp) ?_;(case hd=>rfl);(case hg=>rfl);(case hr=>exact qq_18);(case hp=>exact(Reps.one (show Kd.M (Kd.int .u8) _ _ _ ((Int.tmod a 256)%256) [.int .u8 ((Int.tmod a 256)%256)] from rfl) (Reps.none _ _)));intro t w5 j hb hg_ hnew_;clear hg_ hnew_;(first|rw[← l.out]at j |(simp only[Int.reduceToNat]at j;rw[← l.out]at j));have n_:=qn2 (Kd.R_lower j (Qfi qq_b)) (Qfj qq_b hb);clear HB;obtain⟨n,HB⟩:=n_;clear hb j;have u:=Qdg (P:=Tryz.prog) Tryz.underlying52 Tryz.underlying5 Tryz.underlying9 (Kd.own_of_R n.out)))
     go_roundg k1
     case measure=>have:=HK1.out;omega
     case rel=>exact⟨(IntKind.u64.wrap (Int.tdiv a 256)),(b++(strOfNums g)),(wrap64 (d+1)),qq_4,qq_4,qq_4,H',⟨by have:=HK1.out;omega⟩,⟨qq_b⟩⟩
    ·rw[if_neg c4]at H;exact absurd H (by simp)
   ·rw[if_neg c3]at H;have o:=decide_eq_false c3;clear c3;obtain rfl:=Option.some.inj H;go_wp2;go_ret
    exact⟨qq_2,qq_b⟩
def Qao.f(a0_0:Int)(a0_1:Int):Option (Int):=(Qan.f a0_0 a0_1).bind fun t113=>(if t113=0 then(if 0≤a0_0 then(some (shl .i64 1 a0_0))else(none))else(some 0))
theorem Qao.calls(a:Int)(c:Int)(r:Int)(w:World)(h:Qao.f a c=some r) :
  Calls Tryz.prog 78 #[.agg #[.int .u8 a,.int .u32 c]] w fun e w'=>e=.returned (.int .i64 r)∧Below w.heap.size w w':=by
 have hu27:=Tryz.underlying27;have HB:=QA (Below.refl w.heap.size w);have H:((Qan.f a c).bind fun d=>(if d=0 then(if 0≤a then(some (shl .i64 1 a))else(none))else(some 0)))=some r:=h;clear h;obtain⟨d,s,H⟩:=Option.bind_eq_some_iff.mp H;have A2:=QA s;clear s
 by_cases c3:d=0
 ·rw[if_pos c3]at H;have t:(d == 0)=true:=beq_iff_eq.mpr c3;have u:(d != 0)=false:=bne_eq_false_iff_eq.mpr c3;clear c3
  by_cases c4:0≤a
  ·rw[if_pos c4]at H;have K:=eq_true c4;have L:=decide_eq_true c4;clear c4;obtain⟨l,k⟩:∃j_:Int,(shl .i64 1 a)=j_:=⟨_,rfl⟩;replace H:(some l)=some r:=by first |(rw[k]at H;exact H) |(simp only[k]at H ⊢;exact H)
   (try rw[k]at A2)
   have m:(IntKind.i64.wrap (1*2^min a.toNat 64))=l:=k;have n:a≤64→(IntKind.i64.wrap (1*2^a.toNat))=l:=Qil k;have D:(IntKind.i64.wrap (2^min a.toNat 64))=l:=by have h_:=m;rw[Int.one_mul]at h_;exact h_
   have E:a≤64→(IntKind.i64.wrap (2^a.toNat))=l:=fun hle_=>by have h_:=n hle_;rw[Int.one_mul]at h_;exact h_
   have G:(wrap64 (1*2^min a.toNat 64))=l:=(Qgo _).symm.trans m;have I:a≤64→(wrap64 (1*2^a.toNat))=l:=fun h_=>(Qgo _).symm.trans (n h_)
   obtain rfl:=Option.some.inj H
   go_enter Tryz.func78,Tryz.ntmps78
   go_wp2_with (first |((with_reducible refine Qft (N:=1) rfl ?_);refine qq_e 1 #[.int .u8 a,.int .u32 c] 27 ?_;intro j hg w6 hbox hb;have n_:=qn4 (Qfj qq_b hb) (hbox) (qq_s hg:w.heap.size≤j) (qq_s hg:w.heap.size≤j);clear HB;obtain⟨HB,b,p,q⟩:=n_;clear hb hbox hg;obtain⟨y,z⟩:=qc2 b.out;have M:=Qdw b.out) |((with_reducible refine Qij (f:=85) rfl ?_);refine Qgm (some 4) rfl rfl Tryz.func85 qq_7 rfl #[.agg #[.int .u8 a,.int .u32 c]] rfl qq_1 ?_;(with_reducible refine(Qan.calls a c d _ A2.out).mono ?_);rintro e w8 ⟨rfl,hb⟩;refine⟨_,rfl,?_⟩;have n_:=qn2 (Qei (g:=j) (o:=.cells #[.int .u8 a,.int .u32 c] 27 (0,0)) qq_0 hb) (Qfj qq_b hb);clear b HB;obtain⟨b,HB⟩:=n_;(try clear hb);(try clear hb2);(try clear hk);(try clear hi);obtain⟨A,B⟩:=qc2 b.out;have O:=Qdw b.out))
   go_ret
   exact⟨by first|rfl |(simp[Qio,Qip]<;>rfl) |(simp only[← k];first|rfl |(simp[Qio,Qip]<;>rfl)) |(simp[*,Qio,Qip]<;>rfl),qq_b⟩
  ·rw[if_neg c4]at H;exact absurd H (by simp)
 ·rw[if_neg c3]at H;have t:(d == 0)=false:=beq_eq_false_iff_ne.mpr c3;have u:(d != 0)=true:=bne_iff_ne.mpr c3;obtain rfl:=Option.some.inj H
  go_enter Tryz.func78,Tryz.ntmps78
  go_wp2_with (first |((with_reducible refine Qft (N:=1) rfl ?_);refine qq_e 1 #[.int .u8 a,.int .u32 c] 27 ?_;intro j hg P hbox hb;have n_:=qn4 (Qfj qq_b hb) (hbox) (qq_s hg:w.heap.size≤j) (qq_s hg:w.heap.size≤j);clear HB;obtain⟨HB,b,p,q⟩:=n_;clear hb hbox hg;obtain⟨v,x⟩:=qc2 b.out;have J:=Qdw b.out) |((with_reducible refine Qij (f:=85) rfl ?_);refine Qgm (some 4) rfl rfl Tryz.func85 qq_7 rfl #[.agg #[.int .u8 a,.int .u32 c]] rfl qq_1 ?_;(with_reducible refine(Qan.calls a c d _ A2.out).mono ?_);rintro e T ⟨rfl,hb⟩;refine⟨_,rfl,?_⟩;have n_:=qn2 (Qei (g:=j) (o:=.cells #[.int .u8 a,.int .u32 c] 27 (0,0)) qq_0 hb) (Qfj qq_b hb);clear b HB;obtain⟨b,HB⟩:=n_;(try clear hb);(try clear hb2);(try clear hk);(try clear hi)))
  go_ret
  exact⟨qq_2,qq_b⟩
def Qbu.f(a0:Int):Option (Int):=some (wrap64 (Int.tdiv (wrap64 ((wrap64 ((mx 0 a0)+16))-1)) 16))
theorem Qbu.calls(a0:Int)(r:Int)(w:World)(h:Qbu.f a0=some r) :
  Calls Tryz.prog 183 #[.int .i64 a0] w fun e w'=>e=.returned (.int .i64 r)∧Below w.heap.size w w':=by
 have HB:=QA (Below.refl w.heap.size w);have H:(some (wrap64 (Int.tdiv (wrap64 ((wrap64 ((mx 0 a0)+16))-1)) 16)))=some r:=h;clear h;obtain⟨ji2,hji2⟩:∃j_:Int,(mx 0 a0)=j_:=⟨_,rfl⟩;replace H:(some (wrap64 (Int.tdiv (wrap64 ((wrap64 ((ji2)+16))-1)) 16)))=some r:=by first |(rw[hji2]at H;exact H) |(simp only[hji2]at H ⊢;exact H)
 (try(have hji2l:0≤ji2:=by(rw[← hji2];unfold mx;(repeat' split)<;>omega)))
 (try(have hji2m:0≤ji2:=by omega))
 have hji2_:(if 0<a0 then a0 else 0)=ji2:=hji2;obtain rfl:=Option.some.inj H
 go_enter Tryz.func183,Tryz.ntmps183
 go_wp2;go_ret
 exact⟨by first|rfl |(simp[Qio,Qip]<;>rfl) |(simp only[← hji2];first|rfl |(simp[Qio,Qip]<;>rfl)) |(simp[*,Qio,Qip]<;>rfl),qq_b⟩
def Qcb.f(a0:Int):Option (Int):=(Qak.f (wrap64 ((mx 0 a0)+8))).bind fun t125=>(some (wrap64 (t125+1)))
theorem Qcb.calls(a0:Int)(r:Int)(w:World)(h:Qcb.f a0=some r) :
  Calls Tryz.prog 226 #[.int .i64 a0] w fun e w'=>e=.returned (.int .i64 r)∧Below w.heap.size w w':=by
 have HB:=QA (Below.refl w.heap.size w);have H:((Qak.f (wrap64 ((mx 0 a0)+8))).bind fun t125=>(some (wrap64 (t125+1))))=some r:=h;clear h;obtain⟨ji2,hji2⟩:∃j_:Int,(mx 0 a0)=j_:=⟨_,rfl⟩;replace H:((Qak.f (wrap64 ((ji2)+8))).bind fun t125=>(some (wrap64 (t125+1))))=some r:=by first |(rw[hji2]at H;exact H) |(simp only[hji2]at H ⊢;exact H)
 (try(have hji2l:0≤ji2:=by(rw[← hji2];unfold mx;(repeat' split)<;>omega)))
 (try(have hji2m:0≤ji2:=by omega))
 have hji2_:(if 0<a0 then a0 else 0)=ji2:=hji2;obtain⟨t125,A30,H⟩:=Option.bind_eq_some_iff.mp H;have A3:=QA A30;clear A30;obtain rfl:=Option.some.inj H
 go_enter Tryz.func226,Tryz.ntmps226
 go_wp2_with (first |((with_reducible refine Qij (f:=197) rfl ?_);refine Qgm (some 6) rfl rfl Tryz.func197 qq_7 rfl #[.int .i64 (wrap64 ((ji2)+8))] rfl qq_21 ?_;(with_reducible refine(Qak.calls (wrap64 ((ji2)+8)) t125 _ A3.out).mono ?_);rintro e w' ⟨rfl,⟨nd,rfl⟩⟩;refine⟨_,rfl,?_⟩))
 go_ret
 exact⟨by first|rfl |(simp[Qio,Qip]<;>rfl) |(simp only[← hji2];first|rfl |(simp[Qio,Qip]<;>rfl)) |(simp[*,Qio,Qip]<;>rfl),qq_b⟩
def Qbv.f(a0:Int):Option (Int):=(Qbu.f (mx 0 a0)).bind fun t126=>((Qcb.f (wrap64 ((wrap64 (9+(wrap64 (12*(mx 0 a0)))))+(wrap64 (8*t126))))).bind fun t127=>(some t127))
theorem Qbv.calls(a0:Int)(r:Int)(w:World)(h:Qbv.f a0=some r) :
  Calls Tryz.prog 198 #[.int .i64 a0] w fun e w'=>e=.returned (.int .i64 r)∧Below w.heap.size w w':=by
 have HB:=QA (Below.refl w.heap.size w);have H:((Qbu.f (mx 0 a0)).bind fun a=>((Qcb.f (wrap64 ((wrap64 (9+(wrap64 (12*(mx 0 a0)))))+(wrap64 (8*a))))).bind fun c=>(some c)))=some r:=h;clear h;obtain⟨b,hji2⟩:∃j_:Int,(mx 0 a0)=j_:=⟨_,rfl⟩;replace H:((Qbu.f (b)).bind fun a=>((Qcb.f (wrap64 ((wrap64 (9+(wrap64 (12*(b)))))+(wrap64 (8*a))))).bind fun c=>(some c)))=some r:=by first |(rw[hji2]at H;exact H) |(simp only[hji2]at H ⊢;exact H)
 (try(have j:0≤b:=by(rw[← hji2];unfold mx;(repeat' split)<;>omega)))
 (try(have k:0≤b:=by omega))
 have l:(if 0<a0 then a0 else 0)=b:=hji2;obtain⟨a,d,H⟩:=Option.bind_eq_some_iff.mp H;have A3:=QA d;clear d;obtain⟨c,g,H⟩:=Option.bind_eq_some_iff.mp H;have A4:=QA g;clear g;obtain rfl:=Option.some.inj H
 go_enter Tryz.func198,Tryz.ntmps198
 go_wp2_with (first |((with_reducible refine Qij (f:=183) rfl ?_);refine Qgm (some 9) rfl rfl Tryz.func183 qq_7 rfl #[.int .i64 b] rfl qq_21 ?_;(with_reducible refine(Qbu.calls b a _ A3.out).mono ?_);rintro e w5 ⟨rfl,hb⟩;refine⟨_,rfl,?_⟩;have n_:=qn1 (Qfj qq_b hb);clear HB;have HB:=n_;clear n_;(try clear hb);(try clear hb2);(try clear hk);(try clear hi)) |((with_reducible refine Qij (f:=226) rfl ?_);refine Qgm (some 12) rfl rfl Tryz.func226 qq_7 rfl #[.int .i64 (wrap64 ((wrap64 (9+(wrap64 (12*(b)))))+(wrap64 (8*a))))] rfl qq_21 ?_;(with_reducible refine(Qcb.calls (wrap64 ((wrap64 (9+(wrap64 (12*(b)))))+(wrap64 (8*a)))) c _ A4.out).mono ?_);rintro e w6 ⟨rfl,hb⟩;refine⟨_,rfl,?_⟩;have n_:=qn1 (Qfj qq_b hb);clear HB;have HB:=n_;clear n_;(try clear hb);(try clear hb2);(try clear hk);(try clear hi)))
 go_ret
 exact⟨by first|rfl |(simp[Qio,Qip]<;>rfl) |(simp only[← hji2];first|rfl |(simp[Qio,Qip]<;>rfl)) |(simp[*,Qio,Qip]<;>rfl),qq_b⟩
def Qci.f(a0_0:Int)(a0_1:Int)(a0_2:Int)(a0_3:Int)(a0_4:Int):Option (Int):=(Qao.f a0_0 a0_1).bind fun t129=>((Qbv.f (wrap64 (a0_4+1))).bind fun t130=>(some (mx 0 (wrap64 ((wrap64 (t129-a0_3))-t130)))))
def Qci.T1:Bool × List (List Nat × List Nat):=(true,[([],[]),([0],[0]),([1],[1]),([],[]),([3],[3]),([2,4],[2,4]),([],[]),([6],[6]),([7],[7]),([8,2],[8]),([5,9],[5,9]),([10],[10]),([11,9,0,1,2,3,4,5,6,7,8,9,10,11],[11])])
def Qci.B1:List Nat:=[0,1,3,0,8,31,0,64,192,455,1023,2047,4095]
theorem Qci.tab1:rtab .any (Qhu Tryz.f154 1)=Qci.T1:=by kernel_rfl
theorem Qci.bits1:Qho Qci.T1.2 Qci.B1=true:=by kernel_rfl
theorem Qci.calls(d:Int)(j:Int)(p:Int)(c:Int)(k:Int)(r:Int)(w:World)(h:Qci.f d j p c k=some r) :
  Calls Tryz.prog 154 #[.agg #[.int .u8 d,.int .u32 j,.int .u32 p,.int .i64 c,.int .i64 k]] w fun e w'=>e=.returned (.int .i64 r)∧Below w.heap.size w w':=by
 have hu47:=Tryz.underlying47;have hu27:=Tryz.underlying27;have HB:=QA (Below.refl w.heap.size w);have H:((Qao.f d j).bind fun q=>((Qbv.f (wrap64 (k+1))).bind fun s=>(some (mx 0 (wrap64 ((wrap64 (q-c))-s))))))=some r:=h;clear h;obtain⟨q,u,H⟩:=Option.bind_eq_some_iff.mp H;have A2:=QA u;clear u;obtain⟨s,v,H⟩:=Option.bind_eq_some_iff.mp H;have A3:=QA v;clear v;obtain⟨t,m⟩:∃j_:Int,(mx 0 (wrap64 ((wrap64 (q-c))-s)))=j_:=⟨_,rfl⟩;replace H:(some t)=some r:=by first |(rw[m]at H;exact H) |(simp only[m]at H ⊢;exact H)
 (try rw[m]at A2)
 (try rw[m]at A3)
 (try(have x:0≤t:=by(rw[← m];unfold mx;(repeat' split)<;>omega)))
 (try(have y:0≤t:=by omega))
 have z:(if 0<(wrap64 ((wrap64 (q-c))-s))then(wrap64 ((wrap64 (q-c))-s))else 0)=t:=m;obtain rfl:=Option.some.inj H
 go_enter Tryz.func154,Tryz.ntmps154
 try go_wp2_with (first |((with_reducible refine Qft (N:=1) rfl ?_);refine qq_e 1 #[.int .u8 d,.int .u32 j,.int .u32 p,.int .i64 c,.int .i64 k] 47 ?_;intro b hg w5 hbox hb;have n_:=qn4 (Qfj qq_b hb) (hbox) (qq_s hg:w.heap.size≤b) (qq_s hg:w.heap.size≤b);clear HB;obtain⟨HB,a,A,B⟩:=n_;clear hb hbox hg))
 have n_:=qn2 (Qeg a.out) (Qfq HB.out);clear a HB;obtain⟨a,HB⟩:=n_;refine Qge (n:=13) (S:=fun w'=>w'.cell? ⟨b,0,none⟩=some (.int .u8 d)∧w'.cell? ⟨b,1,none⟩=some (.int .u32 j)∧w'.cell? ⟨b,2,none⟩=some (.int .u32 p)∧w'.cell? ⟨b,3,none⟩=some (.int .i64 c)∧w'.cell? ⟨b,4,none⟩=some (.int .i64 k)) (ds:=[]) (bm 13 0) qq_7 rfl rfl ⟨(Qdv a.out 0).trans rfl,(Qdv a.out 1).trans rfl,(Qdv a.out 2).trans rfl,(Qdv a.out 3).trans rfl,(Qdv a.out 4).trans rfl⟩ (fun l=>?_);refine Qhs Qci.tab1 Qci.bits1 (fun HT_ HW_=>?_);generalize w5.drew=w6 at a HB l ⊢;refine pz_ (i:=0) (N:=some 3) (bm 13 1) (Qhk HT_.out qq_7) ?_;refine pz_ (i:=3) (N:=some 6) (bm 13 9) (Qhk HT_.out qq_7) ?_;refine pz_ (i:=6) (N:=some 9) (bm 13 73) (Qhk HT_.out qq_7) ?_;refine tz_ (i:=1) (N:=some 4) (bm 13 75) (Qhr HT_.out HW_.out qq_7) l ?_;refine tz_ (i:=4) (N:=some 7) (bm 13 91) (Qhr HT_.out HW_.out qq_7) l ?_;refine tz_ (i:=7) (N:=some 10) (bm 13 219) (Qhr HT_.out HW_.out qq_7) l ?_;refine pz_ (i:=8) (N:=some 11) (bm 13 475) (Qhk HT_.out qq_7) ?_;refine one_ (i:=2) (N:=some 5) (bm 13 479) rfl rfl (Qhl HT_.out qq_7) (by decide) (fun K hK=>?_);refine Qgl Tryz.func78 qq_7 rfl #[.agg #[.int .u8 d,.int .u32 j]] (by rfl) rfl rfl qq_1 ?_;with_reducible refine(Qao.calls d j q _ A2.out).mono ?_
 rintro e w7 ⟨rfl,hb⟩;refine⟨_,rfl,?_⟩;have n_:=qn2 (Qei (g:=b) (o:=.cells #[.int .u8 d,.int .u32 j,.int .u32 p,.int .i64 c,.int .i64 k] 47 (0,0)) qq_0 hb) (Qfj qq_b hb);clear a HB;obtain⟨a,HB⟩:=n_
 (try clear hb)
 (try clear hb2)
 (try clear hk)
 (try clear hi)
 refine hK.out _ _ ⟨(Qdv a.out 0).trans rfl,(Qdv a.out 1).trans rfl,(Qdv a.out 2).trans rfl,(Qdv a.out 3).trans rfl,(Qdv a.out 4).trans rfl⟩ (fun l=>?_);clear hK K;refine nzp_ 5 ?_;refine pz_ (i:=5) (N:=some 8) (bm 13 511) (Qhk HT_.out qq_7) ?_;refine one_ (i:=9) (N:=some 12) (bm 13 1023) rfl rfl (Qhl HT_.out qq_7) (by decide) (fun K hK=>?_);refine Qgl Tryz.func198 qq_7 rfl #[.int .i64 (wrap64 (k+1))] (by rfl) rfl rfl qq_1 ?_;with_reducible refine(Qbv.calls (wrap64 (k+1)) s _ A3.out).mono ?_
 rintro e w8 ⟨rfl,hb⟩;refine⟨_,rfl,?_⟩;have n_:=qn2 (Qei (g:=b) (o:=.cells #[.int .u8 d,.int .u32 j,.int .u32 p,.int .i64 c,.int .i64 k] 47 (0,0)) qq_0 hb) (Qfj qq_b hb);clear a HB;obtain⟨a,HB⟩:=n_
 (try clear hb)
 (try clear hb2)
 (try clear hk)
 (try clear hi)
 refine hK.out _ _ ⟨(Qdv a.out 0).trans rfl,(Qdv a.out 1).trans rfl,(Qdv a.out 2).trans rfl,(Qdv a.out 3).trans rfl,(Qdv a.out 4).trans rfl⟩ (fun l=>?_);clear hK K;refine nzp_ 12 ?_;refine pz_ (i:=10) (N:=some 13) (bm 13 2047) (Qhk HT_.out qq_7) ?_;refine pz_ (i:=11) (N:=some 14) (bm 13 4095) (Qhk HT_.out qq_7) ?_;refine pz_ (i:=12) (N:=some 2) (bm 13 8191) (Qhk HT_.out qq_7) ?_;refine Qgh (Qhn HT_.out qq_7) ?_
 try go_wp2
 go_ret
 exact⟨by first|rfl |(simp[Qio,Qip]<;>rfl) |(simp only[← m];first|rfl |(simp[Qio,Qip]<;>rfl)) |(simp[*,Qio,Qip]<;>rfl),qq_b⟩
def Qch.f(a0_0:Int)(a0_1:Int)(a0_2:Int)(a0_3:Int)(a0_4:Int)(a1:Int):Option (Bool):=if a1≥1 then((Qci.f a0_0 a0_1 a0_2 a0_3 a0_4).bind fun t132=>(some (decide (a1≤t132))))else(some false)
theorem Qch.calls(b:Int)(c:Int)(d:Int)(j:Int)(k:Int)(a1:Int)(r:Bool)(w:World)(h:Qch.f b c d j k a1=some r) :
  Calls Tryz.prog 100 #[.agg #[.int .u8 b,.int .u32 c,.int .u32 d,.int .i64 j,.int .i64 k],.int .i64 a1] w fun e w'=>e=.returned (.bool r)∧Below w.heap.size w w':=by
 have hu47:=Tryz.underlying47;have HB:=QA (Below.refl w.heap.size w);have H:(if a1≥1 then((Qci.f b c d j k).bind fun m=>(some (decide (a1≤m))))else(some false))=some r:=h;clear h
 by_cases c3:a1≥1
 ·rw[if_pos c3]at H;have s:decide (1≤a1)=true:=decide_eq_true c3;clear c3;obtain⟨m,q,H⟩:=Option.bind_eq_some_iff.mp H;have A4:=QA q;clear q;obtain rfl:=Option.some.inj H
  go_enter Tryz.func100,Tryz.ntmps100
  go_wp2_with (first |((with_reducible refine Qft (N:=2) rfl ?_);refine qq_e 2 #[.int .u8 b,.int .u32 c,.int .u32 d,.int .i64 j,.int .i64 k] 47 ?_;intro a hg w5 hbox hb;have n_:=qn4 (Qfj qq_b hb) (hbox) (qq_s hg:w.heap.size≤a) (qq_s hg:w.heap.size≤a);clear HB;obtain⟨HB,l,n,p⟩:=n_;clear hb hbox hg;obtain⟨t,u,v,x,y⟩:=qc5 l.out;have z:=Qdw l.out) |(go_at_call 154;(with_reducible refine(Qci.calls b c d j k m _ A4.out).mono ?_);rintro e w7 ⟨rfl,hb⟩;have n_:=qn2 (Qei (g:=a) (o:=.cells #[.int .u8 b,.int .u32 c,.int .u32 d,.int .i64 j,.int .i64 k] 47 (0,0)) qq_0 hb) (Qfj qq_b hb);clear l HB;obtain⟨l,HB⟩:=n_;(try clear hb);(try clear hb2);(try clear hk);(try clear hi)))
  go_ret
  exact⟨qq_2,qq_b⟩
 ·rw[if_neg c3]at H;have s:decide (1≤a1)=false:=decide_eq_false c3;clear c3;obtain rfl:=Option.some.inj H
  go_enter Tryz.func100,Tryz.ntmps100
  go_wp2_with (first |((with_reducible refine Qft (N:=2) rfl ?_);refine qq_e 2 #[.int .u8 b,.int .u32 c,.int .u32 d,.int .i64 j,.int .i64 k] 47 ?_;intro a hg w8 hbox hb;have n_:=qn4 (Qfj qq_b hb) (hbox) (qq_s hg:w.heap.size≤a) (qq_s hg:w.heap.size≤a);clear HB;obtain⟨HB,l,n,p⟩:=n_;clear hb hbox hg))
  go_ret
  exact⟨qq_2,qq_b⟩
def Qcj.f(a0_0:Int)(a0_1:Int)(a0_2:Int)(a0_3:Int)(a0_4:Int)(a1:Int):Option (Int × Int × Int × Int × Int × Int):=(Qch.f a0_0 a0_1 a0_2 a0_3 a0_4 a1).bind fun t144=>(if t144=true then(some (a0_0,a0_1,a0_2,wrap64 (a0_3+a1),wrap64 (a0_4+1),0))else(some (0,0,0,0,0,7)))
theorem Qcj.calls(a:Int)(b:Int)(d:Int)(j:Int)(k:Int)(a1:Int)(r1:Int)(r2:Int)(r3:Int)(r4:Int)(r5:Int)(r6:Int)(w:World)(h:Qcj.f a b d j k a1=some (r1,r2,r3,r4,r5,r6)) :
  Calls Tryz.prog 59 #[.agg #[.int .u8 a,.int .u32 b,.int .u32 d,.int .i64 j,.int .i64 k],.int .i64 a1] w fun e w'=>e=.returned (.tuple #[.agg #[.int .u8 r1,.int .u32 r2,.int .u32 r3,.int .i64 r4,.int .i64 r5],.int .i64 r6])∧Below w.heap.size w w':=by
 have hu47:=Tryz.underlying47;have HB:=QA (Below.refl w.heap.size w);have H:((Qch.f a b d j k a1).bind fun r=>(if r=true then(some (a,b,d,wrap64 (j+a1),wrap64 (k+1),0))else(some (0,0,0,0,0,7))))=some (r1,r2,r3,r4,r5,r6):=h;clear h;obtain⟨r,x,H⟩:=Option.bind_eq_some_iff.mp H;have A3:=QA x;clear x
 by_cases c4:r=true
 ·subst c4;rw[if_pos rfl]at H;simp only[Option.some.injEq,Prod.mk.injEq]at H;obtain⟨rfl,rfl,rfl,rfl,rfl,rfl⟩:=H
  go_enter Tryz.func59,Tryz.ntmps59
  go_wp2_with (first |((with_reducible refine Qft (N:=2) rfl ?_);refine qq_e 2 #[.int .u8 a,.int .u32 b,.int .u32 d,.int .i64 j,.int .i64 k] 47 ?_;intro c hg w5 hbox hb;have n_:=qn4 (Qfj qq_b hb) (hbox) (qq_s hg:w.heap.size≤c) (qq_s hg:w.heap.size≤c);clear HB;obtain⟨HB,l,s,t⟩:=n_;clear hb hbox hg) |((with_reducible refine Qft (N:=4) rfl ?_);refine qq_e 4 #[.int .u8 0,.int .u32 0,.int .u32 0,.int .i64 0,.int .i64 0] 47 ?_;intro m hg w6 hbox hb;have n_:=qn7 (Qei (g:=c) (o:=.cells #[.int .u8 a,.int .u32 b,.int .u32 d,.int .i64 j,.int .i64 k] 47 (0,0)) qq_0 hb) (Qfj qq_b hb) (hbox) (qq_s hg:w.heap.size≤m) (qq_s hg:w.heap.size≤m) ((by rw[hg];exact Nat.ne_of_lt (Qdu (g:=c) (o:=.cells #[.int .u8 a,.int .u32 b,.int .u32 d,.int .i64 j,.int .i64 k] 47 (0,0)) qq_0):c≠m)) ((by rw[hg];exact Nat.ne_of_gt (Qdu (g:=c) (o:=.cells #[.int .u8 a,.int .u32 b,.int .u32 d,.int .i64 j,.int .i64 k] 47 (0,0)) qq_0):m≠c));clear l HB;obtain⟨l,HB,n,u,v,q,p⟩:=n_;clear hb hbox hg;have al:=q.out;have am:=p.out;obtain⟨aa,ab,ac,ad,ae⟩:=qc5 l.out;have an:=Qdw l.out) |((with_reducible refine Qij (f:=100) rfl ?_);refine Qgm (some 8) rfl rfl Tryz.func100 qq_7 rfl #[.agg #[.int .u8 a,.int .u32 b,.int .u32 d,.int .i64 j,.int .i64 k],.int .i64 a1] rfl qq_1 ?_;(with_reducible refine(Qch.calls a b d j k a1 true _ A3.out).mono ?_);rintro e w9 ⟨rfl,hb⟩;refine⟨_,rfl,?_⟩;have n_:=qn3 (Qei (g:=c) (o:=.cells #[.int .u8 a,.int .u32 b,.int .u32 d,.int .i64 j,.int .i64 k] 47 (0,0)) qq_0 hb) (Qei (g:=m) (o:=.cells #[.int .u8 0,.int .u32 0,.int .u32 0,.int .i64 0,.int .i64 0] 47 (0,0)) qq_0 hb) (Qfj qq_b hb);clear l n HB;obtain⟨l,n,HB⟩:=n_;(try clear hb);(try clear hb2);(try clear hk);(try clear hi);obtain⟨y,z,A,B,D⟩:=qc5 l.out;have af:=Qdw l.out;obtain⟨E,G,I,J,K⟩:=qc5 n.out;have ag:=Qdw n.out))
  refine bodyPost_ret (Qek rfl _ _ m 47 #[.int .u8 a,.int .u32 b,.int .u32 d,.int .i64 (wrap64 (j+a1)),.int .i64 (wrap64 (k+1))] (0,0) _ rfl (by(with_reducible repeat(first|apply Qeh|apply Qeg|apply Qef));refine Qfp (cs:=#[.int .u8 a,.int .u32 b,.int .u32 d,.int .i64 (wrap64 (j+a1)),.int .i64 0]) ?_ 4 _ rfl;(with_reducible repeat(first|apply Qeh|apply Qeg|apply Qef));refine Qfp (cs:=#[.int .u8 a,.int .u32 b,.int .u32 d,.int .i64 0,.int .i64 0]) ?_ 3 _ rfl;(with_reducible repeat(first|apply Qeh|apply Qeg|apply Qef));refine Qfp (cs:=#[.int .u8 a,.int .u32 b,.int .u32 0,.int .i64 0,.int .i64 0]) ?_ 2 _ rfl;(with_reducible repeat(first|apply Qeh|apply Qeg|apply Qef));refine Qfp (cs:=#[.int .u8 a,.int .u32 0,.int .u32 0,.int .i64 0,.int .i64 0]) ?_ 1 _ rfl;(with_reducible repeat(first|apply Qeh|apply Qeg|apply Qef));refine Qfp (cs:=#[.int .u8 0,.int .u32 0,.int .u32 0,.int .i64 0,.int .i64 0]) ?_ 0 _ rfl;(with_reducible repeat(first|apply Qeh|apply Qeg|apply Qef));refine Qdt ?_ p.out _;(with_reducible repeat(first|apply Qeh|apply Qeg|apply Qef));refine Qdt ?_ p.out _;(with_reducible repeat(first|apply Qeh|apply Qeg|apply Qef));exact n.out) Tryz.underlying47 rfl qq_7) rfl ?_;exact⟨qq_2,qq_b⟩
 ·replace c4:=Bool.eq_false_iff.mpr c4;subst c4;rw[if_neg (show ¬(false=true)by decide)]at H;simp only[Option.some.injEq,Prod.mk.injEq]at H;obtain⟨rfl,rfl,rfl,rfl,rfl,rfl⟩:=H
  go_enter Tryz.func59,Tryz.ntmps59
  go_wp2_with (first |((with_reducible refine Qft (N:=2) rfl ?_);refine qq_e 2 #[.int .u8 a,.int .u32 b,.int .u32 d,.int .i64 j,.int .i64 k] 47 ?_;intro c hg ao hbox hb;have n_:=qn4 (Qfj qq_b hb) (hbox) (qq_s hg:w.heap.size≤c) (qq_s hg:w.heap.size≤c);clear HB;obtain⟨HB,l,s,t⟩:=n_;clear hb hbox hg) |((with_reducible refine Qft (N:=4) rfl ?_);refine qq_e 4 #[.int .u8 0,.int .u32 0,.int .u32 0,.int .i64 0,.int .i64 0] 47 ?_;intro m hg ap hbox hb;have n_:=qn7 (Qei (g:=c) (o:=.cells #[.int .u8 a,.int .u32 b,.int .u32 d,.int .i64 j,.int .i64 k] 47 (0,0)) qq_0 hb) (Qfj qq_b hb) (hbox) (qq_s hg:w.heap.size≤m) (qq_s hg:w.heap.size≤m) ((by rw[hg];exact Nat.ne_of_lt (Qdu (g:=c) (o:=.cells #[.int .u8 a,.int .u32 b,.int .u32 d,.int .i64 j,.int .i64 k] 47 (0,0)) qq_0):c≠m)) ((by rw[hg];exact Nat.ne_of_gt (Qdu (g:=c) (o:=.cells #[.int .u8 a,.int .u32 b,.int .u32 d,.int .i64 j,.int .i64 k] 47 (0,0)) qq_0):m≠c));clear l HB;obtain⟨l,HB,n,u,v,q,p⟩:=n_;clear hb hbox hg;have ah:=q.out;have ai:=p.out;obtain⟨L,M,O,P,T⟩:=qc5 l.out;have aj:=Qdw l.out) |((with_reducible refine Qij (f:=100) rfl ?_);refine Qgm (some 8) rfl rfl Tryz.func100 qq_7 rfl #[.agg #[.int .u8 a,.int .u32 b,.int .u32 d,.int .i64 j,.int .i64 k],.int .i64 a1] rfl qq_1 ?_;(with_reducible refine(Qch.calls a b d j k a1 false _ A3.out).mono ?_);rintro e aq ⟨rfl,hb⟩;refine⟨_,rfl,?_⟩;have n_:=qn3 (Qei (g:=c) (o:=.cells #[.int .u8 a,.int .u32 b,.int .u32 d,.int .i64 j,.int .i64 k] 47 (0,0)) qq_0 hb) (Qei (g:=m) (o:=.cells #[.int .u8 0,.int .u32 0,.int .u32 0,.int .i64 0,.int .i64 0] 47 (0,0)) qq_0 hb) (Qfj qq_b hb);clear l n HB;obtain⟨l,n,HB⟩:=n_;(try clear hb);(try clear hb2);(try clear hk);(try clear hi);obtain⟨U,W,X,Y,Z⟩:=qc5 n.out;have ak:=Qdw n.out))
  refine bodyPost_ret (Qek rfl _ _ m 47 #[.int .u8 0,.int .u32 0,.int .u32 0,.int .i64 0,.int .i64 0] (0,0) _ rfl qq_x Tryz.underlying47 rfl qq_7) rfl ?_;exact⟨qq_2,qq_b⟩
def fascicleref14_Fits.T3:Bool × List (List Nat × List Nat):=(true,[([],[]),([0],[0]),([],[]),([1,2],[1,2]),([],[]),([4],[4]),([5],[5]),([6],[6]),([3,7],[3,7]),([8],[8]),([],[]),([10],[10]),([11,7],[11]),([9,12],[9,12]),([13,12,0,1,2,3,4,5,6,7,8,9,10,11,12,13],[13])])
def fascicleref14_Fits.B3:List Nat:=[0,1,0,7,0,16,48,112,255,511,0,1024,3312,8191,16383]
end Go.Proofs.YtnnofopfbeklbaaGreat.C
end
