/- Words and walks, shortened by a program: what this claim's functions answer, and that other memory stays. -/
import Derived.Test.YtfjhiiaahbjaiaaGreatDoorSSystemTellsx0
import Derived.Test.YtfjhiiaahbjaiaaGreatDoorSSystemTellsx16
namespace Go.Proofs.YtfjhiiaahbjaiaaGreatDoor.HSystemTells
open Go.RowKit Go.Proofs.YtfjhiiaahbjaiaaGreatDoorW.PrintWords Go.Proofs.YtfjhiiaahbjaiaaGreatDoorW.PrintWords.Kd Go.Proofs.YtfjhiiaahbjaiaaGreatDoorW.PrintLast Go.Proofs.YtfjhiiaahbjaiaaGreatDoorW.PrintMore Go.Proofs.YtfjhiiaahbjaiaaGreatDoorW.PrintMore.Kd
attribute [local go_sem] Xb2 Xb0 Xcd Xcc Xbq Xbp Xb1 Xbz
set_option linter.unusedVariables false
set_option linter.unusedSimpArgs false
mutual
def Xj.j0:Nat→Int→Bool→Int→List Int→List Int→List (S35)→Option (Int×Bool)
 |0,_,_,_,_,_,_=>none
 |k+1,x4,G,s,z,B,D=>if G=true then(some (0,false))else(if s≥4 then(Xj.j1 k x4 0 0 s z B D)else(Xj.j1 k x4 x4 0 s z B D))
def Xj.j1:Nat→Int→Int→Int→Int→List Int→List Int→List (S35)→Option (Int×Bool)
 |0,_,_,_,_,_,_,_=>none
 |k+1,x4,x6,x7,s,z,B,D=>if s=4 then(Xj.j2 k x4 x6 x4 s z B D)else(Xj.j2 k x4 x6 x7 s z B D)
def Xj.j2:Nat→Int→Int→Int→Int→List Int→List Int→List (S35)→Option (Int×Bool)
 |0,_,_,_,_,_,_,_=>none
 |k+1,x4,x6,x7,B,D,s,z=>if(s.length:Int)=x6 then(Xj.j3 k x4 x6 x7 ((z.length:Int) != x7) B D s z)else(Xj.j3 k x4 x6 x7 true B D s z)
def Xj.j3:Nat→Int→Int→Int→Bool→Int→List Int→List Int→List (S35)→Option (Int×Bool)
 |0,_,_,_,_,_,_,_,_=>none
 |k+1,x4,x6,x7,G,s,z,B,D=>if G=true then(some (0,false))else(Xj.l0 k x4 x6 x7 0 s z B D)
def Xj.l0:Nat→Int→Int→Int→Int→Int→List Int→List Int→List (S35)→Option (Int×Bool)
 |0,_,_,_,_,_,_,_,_=>none
 |k+1,x4,x6,x7,x8,z,B,s,D=>if x8<x6 then(if 0≤x8 then(if x8<(s.length:Int)then(if z=1 then(if(rd s x8)=0 then(if z=3 then(if(rd s x8)<0 then(some (0,false))else(if(rd s x8)>1114111 then(some (0,false))else(if(rd s x8)≥55296 then(if(rd s x8)≤57343 then(some (0,false))else(Xj.l0 k x4 x6 x7 (wrap64 (x8+1)) z B s D))else(Xj.l0 k x4 x6 x7 (wrap64 (x8+1)) z B s D))))else(Xj.l0 k x4 x6 x7 (wrap64 (x8+1)) z B s D))else(if(rd s x8)=1 then(if z=3 then(if(rd s x8)<0 then(some (0,false))else(if(rd s x8)>1114111 then(some (0,false))else(if(rd s x8)≥55296 then(if(rd s x8)≤57343 then(some (0,false))else(Xj.l0 k x4 x6 x7 (wrap64 (x8+1)) z B s D))else(Xj.l0 k x4 x6 x7 (wrap64 (x8+1)) z B s D))))else(Xj.l0 k x4 x6 x7 (wrap64 (x8+1)) z B s D))else(some (0,false))))else(if z=3 then(if(rd s x8)<0 then(some (0,false))else(if(rd s x8)>1114111 then(some (0,false))else(if(rd s x8)≥55296 then(if(rd s x8)≤57343 then(some (0,false))else(Xj.l0 k x4 x6 x7 (wrap64 (x8+1)) z B s D))else(Xj.l0 k x4 x6 x7 (wrap64 (x8+1)) z B s D))))else(Xj.l0 k x4 x6 x7 (wrap64 (x8+1)) z B s D)))else(none))else(none))else(Xj.l1 k x4 x7 0 z B s D)
def Xj.l1:Nat→Int→Int→Int→Int→List Int→List Int→List (S35)→Option (Int×Bool)
 |0,_,_,_,_,_,_,_=>none
 |k+1,x4,x7,z,B,D,G,s=>if z<x7 then(if 0≤z then(if z<(s.length:Int)then((Xl.f k ((Xw s z).f0) ((Xw s z).f1)).bind fun H=>(if H=true then(Xj.l1 k x4 x7 (wrap64 (z+1)) B D G s)else(some (0,false))))else(none))else(none))else(some (x4,true))
end
def Xj.f(k:Nat)(z:Int)(B:List Int)(D:List Int)(G:List (S35)):Option (Int×Bool):=(Xo.f k B).bind fun s=>(if s.2=true then(if z<1 then(Xj.j0 k s.1 true z B D G)else(Xj.j0 k s.1 (decide (z>5)) z B D G))else(Xj.j0 k s.1 true z B D G))
theorem Xj.mono_l:∀k,(∀y0 y1 y2 y3 y4 y5,LeO (Xj.j0 k y0 y1 y2 y3 y4 y5) (Xj.j0 (k+1) y0 y1 y2 y3 y4 y5))∧(∀y0 y1 y2 y3 y4 y5 y6,LeO (Xj.j1 k y0 y1 y2 y3 y4 y5 y6) (Xj.j1 (k+1) y0 y1 y2 y3 y4 y5 y6))∧(∀y0 y1 y2 y3 y4 y5 y6,LeO (Xj.j2 k y0 y1 y2 y3 y4 y5 y6) (Xj.j2 (k+1) y0 y1 y2 y3 y4 y5 y6))∧(∀y0 y1 y2 y3 y4 y5 y6 y7,LeO (Xj.j3 k y0 y1 y2 y3 y4 y5 y6 y7) (Xj.j3 (k+1) y0 y1 y2 y3 y4 y5 y6 y7))∧(∀y0 y1 y2 y3 y4 y5 y6 y7,LeO (Xj.l0 k y0 y1 y2 y3 y4 y5 y6 y7) (Xj.l0 (k+1) y0 y1 y2 y3 y4 y5 y6 y7))∧(∀y0 y1 y2 y3 y4 y5 y6,LeO (Xj.l1 k y0 y1 y2 y3 y4 y5 y6) (Xj.l1 (k+1) y0 y1 y2 y3 y4 y5 y6))
 |0=>⟨fun _ _ _ _ _ _ r h=>by simp[Xj.j0]at h,fun _ _ _ _ _ _ _ r h=>by simp[Xj.j1]at h,fun _ _ _ _ _ _ _ r h=>by simp[Xj.j2]at h,fun _ _ _ _ _ _ _ _ r h=>by simp[Xj.j3]at h,fun _ _ _ _ _ _ _ _ r h=>by simp[Xj.l0]at h,fun _ _ _ _ _ _ _ r h=>by simp[Xj.l1]at h⟩
 |k+1=>by
  obtain⟨ih0,ih1,ih2,ih3,ih4,ih5⟩:=Xj.mono_l k;refine⟨?_,?_,?_,?_,?_,?_⟩
  ·intro y0 y1 y2 y3 y4 y5;unfold Xj.j0;have im0:=@Xl.mono;have im1:=@Xo.mono;exact mz3
  ·intro y0 y1 y2 y3 y4 y5 y6;unfold Xj.j1;have im0:=@Xl.mono;have im1:=@Xo.mono;exact mz3
  ·intro y0 y1 y2 y3 y4 y5 y6;unfold Xj.j2;have im0:=@Xl.mono;have im1:=@Xo.mono;exact mz3
  ·intro y0 y1 y2 y3 y4 y5 y6 y7;unfold Xj.j3;have im0:=@Xl.mono;have im1:=@Xo.mono;exact mz3
  ·intro y0 y1 y2 y3 y4 y5 y6 y7;unfold Xj.l0;have im0:=@Xl.mono;have im1:=@Xo.mono;exact mz3
  ·intro y0 y1 y2 y3 y4 y5 y6;unfold Xj.l1;have im0:=@Xl.mono;have im1:=@Xo.mono;exact mz3
theorem Xj.mono:∀a0 a1 a2 a3 k,LeO (Xj.f k a0 a1 a2 a3) (Xj.f (k+1) a0 a1 a2 a3):=by intro a0 a1 a2 a3 k;obtain⟨ih0,ih1,ih2,ih3,ih4,ih5⟩:=Xj.mono_l k;unfold Xj.f;have im0:=@Xl.mono;have im1:=@Xo.mono;exact mz3
set_option maxHeartbeats 8000000 in
set_option maxRecDepth 100000 in
theorem Xj.calls(k:Nat)(ah:Int)(al:Option Addr)(am:Nat)(ae:List Int)(an:Option Addr)(ao:Nat)(J:List Int)(ap:Option Addr)(aq:Nat)(U:List (S35))(r1:Int)(r2:Bool)(w:World)(aC:Kd.C (Kd.int .i64) w al ae.length ae)(aD:ae.length≤am)(aE:Kd.C (Kd.int .i64) w an J.length J)(aF:J.length≤ao)(aG:Kd.C k35 w ap U.length U)(aH:U.length≤aq)(h:Xj.f k ah ae J U=some (r1,r2)):
  Calls Tryz.prog 89 #[.agg #[.int .i64 ah,.slice al ae.length am,.slice an J.length ao,.slice ap U.length aq]] w fun e w'=>e= .returned (.tuple #[.int .i64 r1,.bool r2])∧Below w.heap.size w w':=by
 have bW:=Tryz.underlying32;have bX:=Tryz.underlying35;have aR:=zq aC;have aS:=zq aD;clear aC aD;have L:=zq aE;have bb:=zq aF;clear aE aF;have aI:=zq aG;have bc:=zq aH;clear aG aH;have HB:=zq (Below.refl w.heap.size w);unfold Xj.f at h;have H:=h;clear h;refine yv H ?_;clear H;rintro⟨ar,aX⟩ A2 H;dsimp only at H;have aT:=zq H;clear H;go_enter Tryz.func89,Tryz.ntmps89;go_upto_region 2 with(first|((with_reducible refine Xk (N:=1) rfl ?_);(try(refine Xah Xbm ?_;dsimp only));refine bxw 1 32 #[.int .i64 ah,.slice al ae.length am,.slice an J.length ao,.slice ap U.length aq] ?_;intro aj hg w4 hbox hb;have z:=zq (hbox);have I:=zq ((J20:w.heap.size≤aj));replace HB:=zq (Xb J0 hb);clear hb hbox hg;have Z5:=cz4 z.out)|((with_reducible refine Xh (f:=82) rfl ?_);refine gL Tryz.func82 (Xo.calls k _ _ ae ar aX _ (zc (lp aR.out HB.out)) aS.out A2.out) ?_;rintro e w' ⟨rfl,⟨nd,rfl⟩⟩;refine⟨_,rfl,?_⟩));(try simp only[Act.put,List.setIfInBounds_toArray,List.set_cons_zero,List.set_cons_succ]);go_cut [29] (fun bd wc=>∃(kq:Nat)(aA:Bool),bd= .bool aA∧Aside0 (Xj.j0 kq ar aA ah ae J U=some (r1,r2))∧Aside0 (kq≤k)∧Aside0 (wc.heap[aj]?=some (.cells #[.int .i64 ah,(.slice al ae.length am),(.slice an J.length ao),(.slice ap U.length aq)] 32 (0,0)))∧Aside0 (Below w.heap.size w wc));case first=>
  have H:=aT.out;clear aT;refine yB H ?_ ?_<;>clear H<;>rintro rfl H
  ·have H':=zq H;clear H;go_wp2;go_meet;case rel=>exact⟨_,(true),J3,H',⟨J42⟩,⟨J10⟩,⟨J4⟩⟩
  refine yd H ?_ ?_<;>clear H<;>rintro aB H
  ·(first|rw[aB]|(simp only[Xau,Xax];rw[aB])|skip);have H':=zq H;clear H;have Z9:=cz4 z.out;go_wp2;go_meet;case rel=>exact⟨_,(decide (ah>5)),J3,H',⟨J42⟩,⟨J10⟩,⟨J4⟩⟩
  (first|rw[aB]|(simp only[Xau,Xax];rw[aB])|skip);have H':=zq H;clear H;have Z8:=cz4 z.out;go_wp2;go_meet;case rel=>exact⟨_,(true),J3,H',⟨J42⟩,⟨J10⟩,⟨J4⟩⟩
 case rest=>
  clear aT;try clear Z5
  obtain⟨kq,aA,rfl,HA,af,z,HB⟩:=hcut;cases kq with
  |zero=>exact absurd HA.out (by simp[Xj.j0])
  |succ be=>
   have H:=HA.out;clear HA;simp only[Xj.j0]at H;refine yC H ?_ ?_<;>clear H<;>rintro rfl H
   ·obtain⟨rfl,rfl⟩:=yp2 H;go_wp2
    go_ret2
    exact⟨J1,J4⟩
   have aJ:=zq H;clear H;have aP:=cz4 z.out
   go_upto_if 33 with(fail)
   go_cut [6] (fun v6 wc=>∃(kq:Nat)(au:Int),v6= .int .i64 au∧Aside0 (Xj.j1 kq ar au 0 ah ae J U=some (r1,r2))∧Aside0 (kq≤be)∧Aside0 (wc.heap[aj]?=some (.cells #[.int .i64 ah,(.slice al ae.length am),(.slice an J.length ao),(.slice ap U.length aq)] 32 (0,0)))∧Aside0 (Below w.heap.size w wc));case first=>
    have H:=aJ.out;clear aJ;refine yd H ?_ ?_<;>clear H<;>rintro av H
    ·(first|rw[av]|(simp only[Xau,Xax];rw[av])|skip);have H':=zq H;clear H;go_wp2;go_meet;case rel=>exact⟨_,(ar),J3,H',⟨by have:=af.out;first|omega|exact Nat.le_refl _⟩,⟨J10⟩,⟨J4⟩⟩
    (first|rw[av]|(simp only[Xau,Xax];rw[av])|skip);have H':=zq H;clear H;go_wp2;go_meet;case rel=>exact⟨_,(0),J3,H',⟨by have:=af.out;first|omega|exact Nat.le_refl _⟩,⟨J10⟩,⟨J4⟩⟩
   case rest=>
    clear aJ;try clear aP
    try clear Z5
    obtain⟨kq,au,rfl,HA,aa,z,HB⟩:=hcut;cases kq with
    |zero=>exact absurd HA.out (by simp[Xj.j1])
    |succ aY=>
     have H:=HA.out;clear HA;simp only[Xj.j1]at H;have aK:=zq H;clear H;have aU:=cz4 z.out
     go_upto_if 36 with(fail)
     go_cut [7] (fun v7 wc=>∃(kq:Nat)(ak:Int),v7= .int .i64 ak∧Aside0 (Xj.j2 kq ar au ak ah ae J U=some (r1,r2))∧Aside0 (kq≤aY)∧Aside0 (wc.heap[aj]?=some (.cells #[.int .i64 ah,(.slice al ae.length am),(.slice an J.length ao),(.slice ap U.length aq)] 32 (0,0)))∧Aside0 (Below w.heap.size w wc));case first=>
      have H:=aK.out;clear aK;refine yE H ?_ ?_<;>clear H<;>rintro⟨aw,bf,bg⟩ H
      ·(first|rw[aw]|(simp only[Xau,Xax];rw[aw])|skip);have H':=zq H;clear H;go_wp2;go_meet;case rel=>exact⟨_,(0),J3,H',⟨by have:=af.out;have:=aa.out;first|omega|exact Nat.le_refl _⟩,⟨J10⟩,⟨J4⟩⟩
      clear bg;(first|rw[aw]|(simp only[Xau,Xax];rw[aw])|skip);have H':=zq H;clear H;go_wp2;go_meet;case rel=>exact⟨_,(ar),J3,H',⟨by have:=af.out;have:=aa.out;first|omega|exact Nat.le_refl _⟩,⟨J10⟩,⟨J4⟩⟩
     case rest=>
      clear aK;try clear aP
      try clear aU
      try clear Z5
      obtain⟨kq,ak,rfl,HA,ab,z,HB⟩:=hcut;cases kq with
      |zero=>exact absurd HA.out (by simp[Xj.j2])
      |succ aZ=>
       have H:=HA.out;clear HA;simp only[Xj.j2]at H;have aL:=zq H;clear H;go_upto_region 10 with(fail);go_cut [49] (fun bh wc=>∃(kq:Nat)(ax:Bool),bh= .bool ax∧Aside0 (Xj.j3 kq ar au ak ax ah ae J U=some (r1,r2))∧Aside0 (kq≤aZ)∧Aside0 (wc.heap[aj]?=some (.cells #[.int .i64 ah,(.slice al ae.length am),(.slice an J.length ao),(.slice ap U.length aq)] 32 (0,0)))∧Aside0 (Below w.heap.size w wc));case first=>
        have H:=aL.out;clear aL;refine yE H ?_ ?_<;>clear H<;>rintro⟨ay,bi,bj⟩ H
        ·(first|rw[ay]|(simp only[Xau,Xax];rw[ay])|skip);have H':=zq H;clear H;have bZ:=cz4 z.out;go_wp2;go_meet;case rel=>exact⟨_,(true),J3,H',⟨by have:=af.out;have:=aa.out;have:=ab.out;first|omega|exact Nat.le_refl _⟩,⟨J10⟩,⟨J4⟩⟩
        clear bj;(first|rw[ay]|(simp only[Xau,Xax];rw[ay])|skip);have H':=zq H;clear H;have b5:=cz4 z.out;go_wp2;go_meet;case rel=>exact⟨_,(((U.length:Int) != ak)),J3,H',⟨by have:=af.out;have:=aa.out;have:=ab.out;first|omega|exact Nat.le_refl _⟩,⟨J10⟩,⟨J4⟩⟩
       case rest=>
        clear aL;try clear aP
        try clear aU
        try clear Z5
        obtain⟨kq,ax,rfl,HA,ac,z,HB⟩:=hcut;cases kq with
        |zero=>exact absurd HA.out (by simp[Xj.j3])
        |succ aQ=>
         have H:=HA.out;clear HA;simp only[Xj.j3]at H;refine yC H ?_ ?_<;>clear H<;>rintro rfl H
         ·obtain⟨rfl,rfl⟩:=yp2 H;go_wp2
          go_ret2
          exact⟨J1,J4⟩
         have H':=zq H;clear H;go_wp2
         go_loopg [8] aQ (fun kq v8 w'=>∃(G:Int),v8= .int .i64 G∧Aside0 (Xj.l0 kq ar au ak G ah ae J U=some (r1,r2))∧Aside0 (kq≤aQ)∧Aside0 (w'.heap[aj]?=some (.cells #[.int .i64 ah,(.slice al ae.length am),(.slice an J.length ao),(.slice ap U.length aq)] 32 (0,0)))∧Aside0 (Below w.heap.size w w'))
         case atStart=>exact⟨(0),J3,H',⟨Nat.le_refl _⟩,⟨J10⟩,⟨J4⟩⟩
         case round=>
          clear H';try clear aP
          try clear aU
          try clear Z5
          obtain⟨G,rfl,HA,ai,z,HB⟩:=hrel;cases gk with
          |zero=>exact absurd HA.out (by simp[Xj.l0])
          |succ k5=>
           have H:=HA.out;clear HA;simp only[Xj.l0]at H;refine yd H ?_ ?_<;>clear H<;>rintro aV H
           ·have H':=zq H;clear H;go_wp2
            go_loopg [10] k5 (fun kq bk w'=>∃(ag:Int),bk= .int .i64 ag∧Aside0 (Xj.l1 kq ar ak ag ah ae J U=some (r1,r2))∧Aside0 (kq≤k5)∧Aside0 (w'.heap[aj]?=some (.cells #[.int .i64 ah,(.slice al ae.length am),(.slice an J.length ao),(.slice ap U.length aq)] 32 (0,0)))∧Aside0 (Below w.heap.size w w'))
            case atStart=>exact⟨(0),J3,H',⟨Nat.le_refl _⟩,⟨J10⟩,⟨J4⟩⟩
            case round=>
             clear H';try clear aV
             try clear Z5
             obtain⟨ag,rfl,HA,a5,z,HB⟩:=hrel;cases gk with
             |zero=>exact absurd HA.out (by simp[Xj.l1])
             |succ k6=>
              have H:=HA.out;clear HA;simp only[Xj.l1]at H;refine yD H ?_ ?_<;>clear H<;>rintro bl H
              ·refine yu H ?_ ?_<;>clear H<;>rintro a6 H
               ·have bm:decide (0≤ag)=true:=decide_eq_true a6;clear a6;refine yu H ?_ ?_<;>clear H<;>rintro a7 H
                ·have bn:decide (ag<(U.length:Int))=true:=decide_eq_true a7;clear a7;refine yv H ?_;clear H;rintro bY a8 H;refine yC H ?_ ?_<;>clear H<;>rintro rfl H
                 ·have H':=zq H;clear H;have b6:=cz4 z.out;obtain⟨aW,aM,aN,aO,a9,ba⟩:=rdD aI.out HB.out ag;cases aM;go_wp2_with(first|((with_reducible refine Xh (f:=62) rfl ?_);refine gL Tryz.func62 (Xl.calls k6 ((Xw U ag).f0) ((Xw U ag).f1) true _ a8.out) ?_;rintro e b7 ⟨rfl,hb⟩;refine⟨_,rfl,?_⟩;replace z:=zq (Xg (zk z.out) hb);replace HB:=zq (Xb (zs1 I.out) hb);(try clear hb)))
                  go_roundg k6
                  case measure=>have:=af.out;have:=aa.out;have:=ab.out;have:=ac.out;have:=ai.out;have:=a5.out;omega
                  case rel=>exact⟨(wrap64 (ag+1)),J3,H',⟨by have:=af.out;have:=aa.out;have:=ab.out;have:=ac.out;have:=ai.out;have:=a5.out;omega⟩,⟨J10⟩,⟨J4⟩⟩
                 ·obtain⟨rfl,rfl⟩:=yp2 H;have b8:=cz4 z.out;obtain⟨aW,aM,aN,aO,a9,ba⟩:=rdD aI.out HB.out ag;cases aM;go_wp2_with(first|((with_reducible refine Xh (f:=62) rfl ?_);refine gL Tryz.func62 (Xl.calls k6 ((Xw U ag).f0) ((Xw U ag).f1) false _ a8.out) ?_;rintro e b9 ⟨rfl,hb⟩;refine⟨_,rfl,?_⟩;replace HB:=zq (Xb (zs1 I.out) hb);(try clear hb)))
                  go_ret2
                  exact⟨J1,J4⟩
                ·exact absurd H J92
               ·exact absurd H J92
              ·obtain⟨rfl,rfl⟩:=yp2 H;go_wp2
               go_ret2
               exact⟨J1,J4⟩
           refine yj H ?_;clear H;intro bo H;refine yj H ?_;clear H;intro bp H;refine yE H ?_ ?_<;>clear H<;>rintro⟨bq,br,bs⟩ H
           ·refine yF H ?_ ?_<;>clear H<;>rintro⟨bu,bv,bw⟩ H
            ·clear bw;refine yD H ?_ ?_<;>clear H<;>rintro bx H
             ·obtain⟨rfl,rfl⟩:=yp2 H;have ca:=cz4 z.out;have B:0≤(G:Int):=of_decide_eq_true J2;have D:G<(J.length:Int):=of_decide_eq_true J2;obtain⟨O,K,s⟩:=Kd.at_int L.out G B D;cases K;replace s:=yh HB s;replace B:=eq_true B;replace D:=eq_true D;go_wp2
              go_ret2
              exact⟨J1,J4⟩
             ·refine yD H ?_ ?_<;>clear H<;>rintro bz H
              ·obtain⟨rfl,rfl⟩:=yp2 H;have cb:=cz4 z.out;have B:0≤(G:Int):=of_decide_eq_true J2;have D:G<(J.length:Int):=of_decide_eq_true J2;obtain⟨O,K,s⟩:=Kd.at_int L.out G B D;cases K;replace s:=yh HB s;replace B:=eq_true B;replace D:=eq_true D;go_wp2
               go_ret2
               exact⟨J1,J4⟩
              ·refine yD H ?_ ?_<;>clear H<;>rintro bA H
               ·refine yD H ?_ ?_<;>clear H<;>rintro bB H
                ·obtain⟨rfl,rfl⟩:=yp2 H;have cc:=cz4 z.out;have B:0≤(G:Int):=of_decide_eq_true J2;have D:G<(J.length:Int):=of_decide_eq_true J2;obtain⟨O,K,s⟩:=Kd.at_int L.out G B D;cases K;replace s:=yh HB s;replace B:=eq_true B;replace D:=eq_true D;go_wp2
                 go_ret2
                 exact⟨J1,J4⟩
                ·have H':=zq H;clear H;have cd:=cz4 z.out;have B:0≤(G:Int):=of_decide_eq_true J2;have D:G<(J.length:Int):=of_decide_eq_true J2;obtain⟨O,K,s⟩:=Kd.at_int L.out G B D;cases K;replace s:=yh HB s;replace B:=eq_true B;replace D:=eq_true D;go_wp2
                 go_roundg k5
                 case measure=>have:=af.out;have:=aa.out;have:=ab.out;have:=ac.out;have:=ai.out;omega
                 case rel=>exact⟨(wrap64 (G+1)),J3,H',⟨J77⟩,⟨J10⟩,⟨J4⟩⟩
               ·have H':=zq H;clear H;have cf:=cz4 z.out;have B:0≤(G:Int):=of_decide_eq_true J2;have D:G<(J.length:Int):=of_decide_eq_true J2;obtain⟨O,K,s⟩:=Kd.at_int L.out G B D;cases K;replace s:=yh HB s;replace B:=eq_true B;replace D:=eq_true D;go_wp2
                go_roundg k5
                case measure=>have:=af.out;have:=aa.out;have:=ab.out;have:=ac.out;have:=ai.out;omega
                case rel=>exact⟨(wrap64 (G+1)),J3,H',⟨J77⟩,⟨J10⟩,⟨J4⟩⟩
            ·have H':=zq H;clear H;have cg:=cz4 z.out;have B:0≤(G:Int):=of_decide_eq_true J2;have D:G<(J.length:Int):=of_decide_eq_true J2;obtain⟨O,K,s⟩:=Kd.at_int L.out G B D;cases K;replace s:=yh HB s;replace B:=eq_true B;replace D:=eq_true D;go_wp2
             go_roundg k5
             case measure=>have:=af.out;have:=aa.out;have:=ab.out;have:=ac.out;have:=ai.out;omega
             case rel=>exact⟨(wrap64 (G+1)),J3,H',⟨J77⟩,⟨J10⟩,⟨J4⟩⟩
           clear bs;refine yF H ?_ ?_<;>clear H<;>rintro⟨bC,bD,bE⟩ H
           ·clear bE;refine yF H ?_ ?_<;>clear H<;>rintro⟨bF,bG,bH⟩ H
            ·clear bH;refine yD H ?_ ?_<;>clear H<;>rintro bI H
             ·obtain⟨rfl,rfl⟩:=yp2 H;have ch:=cz4 z.out;have B:0≤(G:Int):=of_decide_eq_true J2;have D:G<(J.length:Int):=of_decide_eq_true J2;obtain⟨O,K,s⟩:=Kd.at_int L.out G B D;cases K;replace s:=yh HB s;replace B:=eq_true B;replace D:=eq_true D;go_wp2
              go_ret2
              exact⟨J1,J4⟩
             ·refine yD H ?_ ?_<;>clear H<;>rintro bJ H
              ·obtain⟨rfl,rfl⟩:=yp2 H;have ci:=cz4 z.out;have B:0≤(G:Int):=of_decide_eq_true J2;have D:G<(J.length:Int):=of_decide_eq_true J2;obtain⟨O,K,s⟩:=Kd.at_int L.out G B D;cases K;replace s:=yh HB s;replace B:=eq_true B;replace D:=eq_true D;go_wp2
               go_ret2
               exact⟨J1,J4⟩
              ·refine yD H ?_ ?_<;>clear H<;>rintro bK H
               ·refine yD H ?_ ?_<;>clear H<;>rintro bL H
                ·obtain⟨rfl,rfl⟩:=yp2 H;have cj:=cz4 z.out;have B:0≤(G:Int):=of_decide_eq_true J2;have D:G<(J.length:Int):=of_decide_eq_true J2;obtain⟨O,K,s⟩:=Kd.at_int L.out G B D;cases K;replace s:=yh HB s;replace B:=eq_true B;replace D:=eq_true D;go_wp2
                 go_ret2
                 exact⟨J1,J4⟩
                ·have H':=zq H;clear H;have ck:=cz4 z.out;have B:0≤(G:Int):=of_decide_eq_true J2;have D:G<(J.length:Int):=of_decide_eq_true J2;obtain⟨O,K,s⟩:=Kd.at_int L.out G B D;cases K;replace s:=yh HB s;replace B:=eq_true B;replace D:=eq_true D;go_wp2
                 go_roundg k5
                 case measure=>have:=af.out;have:=aa.out;have:=ab.out;have:=ac.out;have:=ai.out;omega
                 case rel=>exact⟨(wrap64 (G+1)),J3,H',⟨J77⟩,⟨J10⟩,⟨J4⟩⟩
               ·have H':=zq H;clear H;have cl:=cz4 z.out;have B:0≤(G:Int):=of_decide_eq_true J2;have D:G<(J.length:Int):=of_decide_eq_true J2;obtain⟨O,K,s⟩:=Kd.at_int L.out G B D;cases K;replace s:=yh HB s;replace B:=eq_true B;replace D:=eq_true D;go_wp2
                go_roundg k5
                case measure=>have:=af.out;have:=aa.out;have:=ab.out;have:=ac.out;have:=ai.out;omega
                case rel=>exact⟨(wrap64 (G+1)),J3,H',⟨J77⟩,⟨J10⟩,⟨J4⟩⟩
            ·have H':=zq H;clear H;have cm:=cz4 z.out;have B:0≤(G:Int):=of_decide_eq_true J2;have D:G<(J.length:Int):=of_decide_eq_true J2;obtain⟨O,K,s⟩:=Kd.at_int L.out G B D;cases K;replace s:=yh HB s;replace B:=eq_true B;replace D:=eq_true D;go_wp2
             go_roundg k5
             case measure=>have:=af.out;have:=aa.out;have:=ab.out;have:=ac.out;have:=ai.out;omega
             case rel=>exact⟨(wrap64 (G+1)),J3,H',⟨J77⟩,⟨J10⟩,⟨J4⟩⟩
           refine yE H ?_ ?_<;>clear H<;>rintro⟨bM,bN,bO⟩ H
           ·obtain⟨rfl,rfl⟩:=yp2 H;have cn:=cz4 z.out;have B:0≤(G:Int):=of_decide_eq_true J2;have D:G<(J.length:Int):=of_decide_eq_true J2;obtain⟨O,K,s⟩:=Kd.at_int L.out G B D;cases K;replace s:=yh HB s;replace B:=eq_true B;replace D:=eq_true D;go_wp2
            go_ret2
            exact⟨J1,J4⟩
           clear bO;refine yE H ?_ ?_<;>clear H<;>rintro⟨bP,bQ,bR⟩ H
           ·have H':=zq H;clear H;have co:=cz4 z.out;have B:0≤(G:Int):=of_decide_eq_true J2;have D:G<(J.length:Int):=of_decide_eq_true J2;obtain⟨O,K,s⟩:=Kd.at_int L.out G B D;cases K;replace s:=yh HB s;replace B:=eq_true B;replace D:=eq_true D;go_wp2
            go_roundg k5
            case measure=>have:=af.out;have:=aa.out;have:=ab.out;have:=ac.out;have:=ai.out;omega
            case rel=>exact⟨(wrap64 (G+1)),J3,H',⟨J77⟩,⟨J10⟩,⟨J4⟩⟩
           clear bR;refine yD H ?_ ?_<;>clear H<;>rintro bS H
           ·obtain⟨rfl,rfl⟩:=yp2 H;have cp:=cz4 z.out;have B:0≤(G:Int):=of_decide_eq_true J2;have D:G<(J.length:Int):=of_decide_eq_true J2;obtain⟨O,K,s⟩:=Kd.at_int L.out G B D;cases K;replace s:=yh HB s;replace B:=eq_true B;replace D:=eq_true D;go_wp2
            go_ret2
            exact⟨J1,J4⟩
           refine yD H ?_ ?_<;>clear H<;>rintro bT H
           ·obtain⟨rfl,rfl⟩:=yp2 H;have cq:=cz4 z.out;have B:0≤(G:Int):=of_decide_eq_true J2;have D:G<(J.length:Int):=of_decide_eq_true J2;obtain⟨O,K,s⟩:=Kd.at_int L.out G B D;cases K;replace s:=yh HB s;replace B:=eq_true B;replace D:=eq_true D;go_wp2
            go_ret2
            exact⟨J1,J4⟩
           refine yd H ?_ ?_<;>clear H<;>rintro bU H
           ·have H':=zq H;clear H;have cr:=cz4 z.out;have B:0≤(G:Int):=of_decide_eq_true J2;have D:G<(J.length:Int):=of_decide_eq_true J2;obtain⟨O,K,s⟩:=Kd.at_int L.out G B D;cases K;replace s:=yh HB s;replace B:=eq_true B;replace D:=eq_true D;go_wp2
            go_roundg k5
            case measure=>have:=af.out;have:=aa.out;have:=ab.out;have:=ac.out;have:=ai.out;omega
            case rel=>exact⟨(wrap64 (G+1)),J3,H',⟨J77⟩,⟨J10⟩,⟨J4⟩⟩
           refine yD H ?_ ?_<;>clear H<;>rintro bV H
           ·obtain⟨rfl,rfl⟩:=yp2 H;have ct:=cz4 z.out;have B:0≤(G:Int):=of_decide_eq_true J2;have D:G<(J.length:Int):=of_decide_eq_true J2;obtain⟨O,K,s⟩:=Kd.at_int L.out G B D;cases K;replace s:=yh HB s;replace B:=eq_true B;replace D:=eq_true D;go_wp2
            go_ret2
            exact⟨J1,J4⟩
           have H':=zq H;clear H;have cu:=cz4 z.out;have B:0≤(G:Int):=of_decide_eq_true J2;have D:G<(J.length:Int):=of_decide_eq_true J2;obtain⟨O,K,s⟩:=Kd.at_int L.out G B D;cases K;replace s:=yh HB s;replace B:=eq_true B;replace D:=eq_true D;go_wp2
           go_roundg k5
           case measure=>have:=af.out;have:=aa.out;have:=ab.out;have:=ac.out;have:=ai.out;omega
           case rel=>exact⟨(wrap64 (G+1)),J3,H',⟨J77⟩,⟨J10⟩,⟨J4⟩⟩
end Go.Proofs.YtfjhiiaahbjaiaaGreatDoor.HSystemTells
