/- Words and walks, shortened by a program: what this claim's functions answer, and that other memory stays. -/
import Derived.Test.YtfjhiiaahbjaiaaGreatDoorSSystemTellsx0
import Derived.Test.YtfjhiiaahbjaiaaGreatDoorSSystemTellsx1
namespace Go.Proofs.YtfjhiiaahbjaiaaGreatDoor.HSystemTells
open Go.RowKit Go.Proofs.YtfjhiiaahbjaiaaGreatDoorW.PrintWords Go.Proofs.YtfjhiiaahbjaiaaGreatDoorW.PrintLast Go.Proofs.YtfjhiiaahbjaiaaGreatDoorW.PrintMore
attribute [local go_sem] Xb2 Xb0 Xcd Xcc Xbq Xbp Xb1 Xbz
set_option linter.unusedVariables false
set_option linter.unusedSimpArgs false
attribute [local go_sem high] eqA35
def Xai.l0:Nat→Int→Int→Option (Int×Int×Bool)
 |0,_,_=>none
 |k+1,z,s=>if(Int.tmod z 10)=0 then(if s≤32767 then(Xai.l0 k (wrap64 (Int.tdiv z 10)) (wrap64 (s+1)))else(if s<(-32768)then(some (0,0,false))else(if s>32767 then(some (0,0,false))else(some (z,s,true)))))else(if s<(-32768)then(some (0,0,false))else(if s>32767 then(some (0,0,false))else(some (z,s,true))))
def Xai.f(k:Nat)(s:Int)(z:Int):Option (Int×Int×Bool):=if s=0 then(some (0,0,true))else(Xai.l0 k s z)
theorem Xai.mono_l:∀k,(∀y0 y1,LeO (Xai.l0 k y0 y1) (Xai.l0 (k+1) y0 y1))
 |0=>fun _ _ r h=>by simp[Xai.l0]at h
 |k+1=>by
  have ih0:=Xai.mono_l k
  ·intro y0 y1;unfold Xai.l0;exact mz0
theorem Xai.mono:∀a0 a1 k,LeO (Xai.f k a0 a1) (Xai.f (k+1) a0 a1):=by intro a0 a1 k;have ih0:=Xai.mono_l k;unfold Xai.f;exact mz0
set_option maxHeartbeats 8000000 in
set_option maxRecDepth 100000 in
theorem Xai.calls(k:Nat)(U:Int)(aa:Int)(r1:Int)(r2:Int)(r3:Bool)(w:World)(h:Xai.f k U aa=some (r1,r2,r3)):
  Calls Tryz.prog 61 #[.agg #[.int .i64 U,.int .i64 aa]] w fun e w'=>e= .returned (.tuple #[.agg #[.int .i64 r1,.int .i64 r2],.bool r3])∧Below w.heap.size w w':=by
 have aH:=Tryz.underlying35;have HB:=zq (Below.refl w.heap.size w);unfold Xai.f at h;have H:=h;clear h;refine yF H ?_ ?_<;>clear H<;>rintro⟨ab,ac,c2⟩ H
 ·clear c2;obtain⟨rfl,rfl,rfl⟩:=yp3 H;go_enter Tryz.func61,Tryz.ntmps61;go_wp2_with(first|((with_reducible refine Xk (N:=1) rfl ?_);refine bxw 1 35 #[.int .i64 U,.int .i64 aa] ?_;intro L hg w3 hbox hb;have z:=zq (hbox);have K:=zq ((J20:w.heap.size≤L));replace HB:=zq (Xb J0 hb);clear hb hbox hg)|((with_reducible refine Xk (N:=2) rfl ?_);refine bxw 2 35 #[.int .i64 0,.int .i64 0] ?_;intro J hg w4 hbox hb;have G:=zq (hbox);have O:=zq ((J177:w.heap.size≤J));replace HB:=zq (Xb (zs1 K.out) hb);have B:=zq ((J121:L≠J));have s:=zq ((J122:J≠L));replace z:=zq (Xg (zk z.out) hb);clear hb hbox hg;have aI:=B.out;have aJ:=s.out;have Z6:=cz2 z.out;have Z7:=cz2 G.out));refine bodyPost_ret (Xa9 rfl _ _ J 35 #[.int .i64 0,.int .i64 0] (0,0) _ rfl J13 Tryz.underlying35 rfl J30) rfl ?_;exact⟨J1,J17⟩
 have H':=zq H;clear H;go_enter Tryz.func61,Tryz.ntmps61;go_wp2_with(first|((with_reducible refine Xk (N:=1) rfl ?_);refine bxw 1 35 #[.int .i64 U,.int .i64 aa] ?_;intro L hg w8 hbox hb;have z:=zq (hbox);have K:=zq ((J20:w.heap.size≤L));replace HB:=zq (Xb J0 hb);clear hb hbox hg)|((with_reducible refine Xk (N:=2) rfl ?_);refine bxw 2 35 #[.int .i64 0,.int .i64 0] ?_;intro J hg w9 hbox hb;have G:=zq (hbox);have O:=zq ((J177:w.heap.size≤J));replace HB:=zq (Xb (zs1 K.out) hb);have B:=zq ((J121:L≠J));have s:=zq ((J122:J≠L));replace z:=zq (Xg (zk z.out) hb);clear hb hbox hg;have af:=B.out;have ag:=s.out;have ah:=cz2 z.out))
 go_loopg [] k (fun kq w'=>∃(D:Int)(I:Int),Aside0 (Xai.l0 kq D I=some (r1,r2,r3))∧Aside0 (kq≤k)∧Aside0 (w'.heap[L]?=some (.cells #[.int .i64 D,.int .i64 I] 35 (0,0)))∧Aside0 (w'.heap[J]?=some (.cells #[.int .i64 0,.int .i64 0] 35 (0,0)))∧Aside0 (Below w.heap.size w w'))
 case atStart=>exact⟨(U),(aa),H',⟨Nat.le_refl _⟩,⟨J10⟩,⟨J179⟩,⟨J17⟩⟩
 case round=>
  clear H';try clear c2
  try clear ab
  try clear ac
  try clear ah
  obtain⟨D,I,HA,ae,z,G,HB⟩:=hrel;cases gk with
  |zero=>exact absurd HA.out (by simp[Xai.l0])
  |succ k1=>
   have H:=HA.out;clear HA;simp only[Xai.l0]at H;refine yE H ?_ ?_<;>clear H<;>rintro⟨ai,aj,ak⟩ H
   ·refine yD H ?_ ?_<;>clear H<;>rintro al H
    ·obtain⟨rfl,rfl,rfl⟩:=yp3 H;have am:=B.out;have an:=s.out;have aK:=cz2 z.out;have aL:=cz2 G.out;go_wp2;refine bodyPost_ret (Xa9 rfl _ _ J 35 #[.int .i64 0,.int .i64 0] (0,0) _ rfl J13 Tryz.underlying35 rfl J30) rfl ?_;exact⟨J1,J17⟩
    ·refine yD H ?_ ?_<;>clear H<;>rintro ao H
     ·obtain⟨rfl,rfl,rfl⟩:=yp3 H;have ap:=B.out;have aq:=s.out;have aM:=cz2 z.out;have aN:=cz2 G.out;go_wp2;refine bodyPost_ret (Xa9 rfl _ _ J 35 #[.int .i64 0,.int .i64 0] (0,0) _ rfl J13 Tryz.underlying35 rfl J30) rfl ?_;exact⟨J1,J17⟩
     ·obtain⟨rfl,rfl,rfl⟩:=yp3 H;have ar:=B.out;have au:=s.out;have aO:=cz2 z.out;have aP:=cz2 G.out;go_wp2;refine bodyPost_ret (Xa9 rfl _ _ J 35 #[.int .i64 D,.int .i64 I] (0,0) _ rfl J40 Tryz.underlying35 rfl J30) rfl ?_;exact⟨J1,J17⟩
   clear ak;refine yD H ?_ ?_<;>clear H<;>rintro av H
   ·have H':=zq H;clear H;have aw:=B.out;have ax:=s.out;have aQ:=cz2 z.out;go_wp2
    go_roundg k1
    case measure=>have:=ae.out;omega
    case rel=>exact⟨(wrap64 (Int.tdiv D 10)),(wrap64 (I+1)),H',⟨by have:=ae.out;omega⟩,⟨J102⟩,⟨J119⟩,⟨J17⟩⟩
   refine yD H ?_ ?_<;>clear H<;>rintro ay H
   ·obtain⟨rfl,rfl,rfl⟩:=yp3 H;have aA:=B.out;have aB:=s.out;have aR:=cz2 z.out;have aS:=cz2 G.out;go_wp2;refine bodyPost_ret (Xa9 rfl _ _ J 35 #[.int .i64 0,.int .i64 0] (0,0) _ rfl J13 Tryz.underlying35 rfl J30) rfl ?_;exact⟨J1,J17⟩
   refine yd H ?_ ?_<;>clear H<;>rintro aC H
   ·obtain⟨rfl,rfl,rfl⟩:=yp3 H;have aD:=B.out;have aE:=s.out;have aT:=cz2 z.out;have aU:=cz2 G.out;go_wp2;refine bodyPost_ret (Xa9 rfl _ _ J 35 #[.int .i64 D,.int .i64 I] (0,0) _ rfl J40 Tryz.underlying35 rfl J30) rfl ?_;exact⟨J1,J17⟩
   obtain⟨rfl,rfl,rfl⟩:=yp3 H;have aF:=B.out;have aG:=s.out;have aV:=cz2 z.out;have aW:=cz2 G.out;go_wp2;refine bodyPost_ret (Xa9 rfl _ _ J 35 #[.int .i64 0,.int .i64 0] (0,0) _ rfl J13 Tryz.underlying35 rfl J30) rfl ?_;exact⟨J1,J17⟩
def Xl.f(k:Nat)(z:Int)(B:Int):Option (Bool):=(Xai.f k z B).bind fun s=>(if s.2.2=true then(some (s.1==z&&(s.2.1==B)))else(some false))
theorem Xl.mono:∀a0 a1 k,LeO (Xl.f k a0 a1) (Xl.f (k+1) a0 a1):=by intro a0 a1 k;unfold Xl.f;have im0:=@Xai.mono;exact mz3
set_option maxHeartbeats 8000000 in
set_option maxRecDepth 100000 in
theorem Xl.calls(k:Nat)(D:Int)(G:Int)(r:Bool)(w:World)(h:Xl.f k D G=some r):
  Calls Tryz.prog 62 #[.agg #[.int .i64 D,.int .i64 G]] w fun e w'=>e= .returned (.bool r)∧Below w.heap.size w w':=by
 have ae:=Tryz.underlying35;have HB:=zq (Below.refl w.heap.size w);unfold Xl.f at h;have H:=h;clear h;refine yv H ?_;clear H;rintro⟨U,aa,af⟩ A2 H;dsimp only at H;refine yC H ?_ ?_<;>clear H<;>rintro rfl H
 ·obtain rfl:=yo H;go_enter Tryz.func62,Tryz.ntmps62;go_wp2_with(first|((with_reducible refine Xk (N:=1) rfl ?_);refine bxw 1 35 #[.int .i64 D,.int .i64 G] ?_;intro z hg w4 hbox hb;have s:=zq (hbox);have B:=zq ((J20:w.heap.size≤z));replace HB:=zq (Xb J0 hb);clear hb hbox hg;have Z5:=cz2 s.out)|((with_reducible refine Xh (f:=61) rfl ?_);refine gL Tryz.func61 (Xai.calls k D G U aa true _ A2.out) ?_;rintro e w6 ⟨rfl,hb⟩;refine⟨_,rfl,?_⟩;replace s:=zq (Xg (zk s.out) hb);replace HB:=zq (Xb (zs1 B.out) hb);(try clear hb))|((with_reducible refine Xk (N:=3) rfl ?_);refine bxw 3 35 #[.int .i64 0,.int .i64 0] ?_;intro I hg w7 hbox hb;have L:=zq (hbox);have O:=zq ((J54:w.heap.size≤I));replace HB:=zq (Xb (zs1 B.out) hb);have J:=zq ((J124:z≠I));have K:=zq ((J125:I≠z));replace s:=zq (Xg (zk s.out) hb);clear hb hbox hg;have ag:=K.out;have ah:=J.out;have Z9:=cz2 L.out;have ai:=cz2 s.out));go_ret;exact⟨J1,J41⟩
 obtain rfl:=yo H;go_enter Tryz.func62,Tryz.ntmps62;go_wp2_with(first|((with_reducible refine Xk (N:=1) rfl ?_);refine bxw 1 35 #[.int .i64 D,.int .i64 G] ?_;intro z hg aj hbox hb;have s:=zq (hbox);have B:=zq ((J20:w.heap.size≤z));replace HB:=zq (Xb J0 hb);clear hb hbox hg;have ak:=cz2 s.out)|((with_reducible refine Xh (f:=61) rfl ?_);refine gL Tryz.func61 (Xai.calls k D G U aa false _ A2.out) ?_;rintro e al ⟨rfl,hb⟩;refine⟨_,rfl,?_⟩;replace s:=zq (Xg (zk s.out) hb);replace HB:=zq (Xb (zs1 B.out) hb);(try clear hb))|((with_reducible refine Xk (N:=3) rfl ?_);refine bxw 3 35 #[.int .i64 0,.int .i64 0] ?_;intro I hg am hbox hb;have L:=zq (hbox);have O:=zq ((J54:w.heap.size≤I));replace HB:=zq (Xb (zs1 B.out) hb);have J:=zq ((J124:z≠I));have K:=zq ((J125:I≠z));clear hb hbox hg;have ab:=K.out;have ac:=J.out;have an:=cz2 L.out));go_ret;exact⟨J1,J41⟩
mutual
def Xo.l0:Nat→List Int→Int→Int→Option (Int×Bool)
 |0,_,_,_=>none
 |k+1,x0,x4,x5=>if x5<(x0.length:Int)then(if 0≤x5 then(if(rd x0 x5)<0 then(Xo.j1 k x0 x4 x5 true)else(Xo.j1 k x0 x4 x5 (decide ((rd x0 x5)>1048576))))else(none))else(if x4=0 then(some (0,true))else(Xo.l1 k x0 x4 0))
def Xo.j1:Nat→List Int→Int→Int→Bool→Option (Int×Bool)
 |0,_,_,_,_=>none
 |k+1,x0,x4,x5,s=>if s=true then(some (0,false))else(if 0≤x5 then(if x5<(x0.length:Int)then(if(rd x0 x5)=0 then(Xo.l0 k x0 0 (wrap64 (x5+1)))else(Xo.l0 k x0 x4 (wrap64 (x5+1))))else(none))else(none))
def Xo.l1:Nat→List Int→Int→Int→Option (Int×Bool)
 |0,_,_,_=>none
 |k+1,x0,x4,x6=>if x6<(x0.length:Int)then(if 0≤x6 then(if(wrap64 (x4*(rd x0 x6)))>1048576 then(some (0,false))else(Xo.l1 k x0 (wrap64 (x4*(rd x0 x6))) (wrap64 (x6+1))))else(none))else(some (x4,true))
end
def Xo.f(k:Nat)(l0:List Int):Option (Int×Bool):=if(l0.length:Int)>16 then(some (0,false))else(Xo.l0 k l0 1 0)
theorem Xo.mono_l:∀k,(∀y0 y1 y2,LeO (Xo.l0 k y0 y1 y2) (Xo.l0 (k+1) y0 y1 y2))∧(∀y0 y1 y2 y3,LeO (Xo.j1 k y0 y1 y2 y3) (Xo.j1 (k+1) y0 y1 y2 y3))∧(∀y0 y1 y2,LeO (Xo.l1 k y0 y1 y2) (Xo.l1 (k+1) y0 y1 y2))
 |0=>⟨fun _ _ _ r h=>by simp[Xo.l0]at h,fun _ _ _ _ r h=>by simp[Xo.j1]at h,fun _ _ _ r h=>by simp[Xo.l1]at h⟩
 |k+1=>by
  obtain⟨ih0,ih1,ih2⟩:=Xo.mono_l k;refine⟨?_,?_,?_⟩
  ·intro y0 y1 y2;unfold Xo.l0;exact mz0
  ·intro y0 y1 y2 y3;unfold Xo.j1;exact mz0
  ·intro y0 y1 y2;unfold Xo.l1;exact mz0
theorem Xo.mono:∀a0 k,LeO (Xo.f k a0) (Xo.f (k+1) a0):=by intro a0 k;obtain⟨ih0,ih1,ih2⟩:=Xo.mono_l k;unfold Xo.f;exact mz0
set_option maxHeartbeats 8000000 in
set_option maxRecDepth 100000 in
theorem Xo.calls(k:Nat)(A0:Option Addr)(c0:Nat)(l0:List Int)(r1:Int)(r2:Bool)(w:World)(aA:Kd.C (Kd.int .i64) w A0 l0.length l0)(aB:l0.length≤c0)(h:Xo.f k l0=some (r1,r2)):
  Calls Tryz.prog 82 #[.slice A0 l0.length c0] w fun e w'=>e= .returned (.tuple #[.int .i64 r1,.bool r2])∧Drawn0 w w':=by
 have U:=zq aA;have aR:=zq aB;clear aA aB;unfold Xo.f at h;have H:=h;clear h;refine yu H ?_ ?_<;>clear H<;>rintro c2 H
 ·have ab:decide (16<(l0.length:Int))=true:=decide_eq_true c2;have ac:decide (16<l0.length)=true:=decide_eq_true J28;clear c2;obtain⟨rfl,rfl⟩:=yp2 H;go_enter Tryz.func82,Tryz.ntmps82;go_wp2
  go_ret2
  exact⟨J3,J7⟩
 have ab:=decide_eq_false c2;have ac:decide (16<l0.length)=false:=decide_eq_false J28;clear c2;have H':=zq H;clear H;go_enter Tryz.func82,Tryz.ntmps82;go_wp2
 go_loopg [4,5] k (fun kq v4 v5 w'=>∃(L:Int)(s:Int),v4= .int .i64 L∧v5= .int .i64 s∧Aside0 (Xo.l0 kq l0 L s=some (r1,r2))∧Aside0 (kq≤k)∧Drawn0 w w')
 case atStart=>exact⟨(1),(0),J3,J3,H',⟨Nat.le_refl _⟩,J7⟩
 case round=>
  clear H';try clear c2
  try clear ab
  try clear ac
  obtain⟨L,s,rfl,rfl,HA,O,⟨m1,rfl⟩⟩:=hrel;cases gk with
  |zero=>exact absurd HA.out (by simp[Xo.l0])
  |succ k1=>
   have H:=HA.out;clear HA;simp only[Xo.l0]at H;refine yd H ?_ ?_<;>clear H<;>rintro ap H
   ·refine yF H ?_ ?_<;>clear H<;>rintro⟨ar,au,aC⟩ H
    ·clear aC;obtain⟨rfl,rfl⟩:=yp2 H;go_wp2
     go_ret2
     exact⟨J3,J7⟩
    ·have H':=zq H;clear H;go_wp2
     go_loopg [4,6] k1 (fun kq v4 v6 w'=>∃(ae:Int)(z:Int),v4= .int .i64 ae∧v6= .int .i64 z∧Aside0 (Xo.l1 kq l0 ae z=some (r1,r2))∧Aside0 (kq≤k1)∧Drawn0 w w')
     case atStart=>exact⟨(L),(0),J3,J3,H',⟨Nat.le_refl _⟩,J7⟩
     case round=>
      clear H';try clear c2
      try clear ab
      try clear ac
      try clear ap
      try clear aC
      try clear ar
      try clear au
      obtain⟨ae,z,rfl,rfl,HA,aD,⟨m2,rfl⟩⟩:=hrel;cases gk with
      |zero=>exact absurd HA.out (by simp[Xo.l1])
      |succ k2=>
       have H:=HA.out;clear HA;simp only[Xo.l1]at H;refine yD H ?_ ?_<;>clear H<;>rintro aI H
       ·refine yu H ?_ ?_<;>clear H<;>rintro aE H
        ·have aJ:decide (0≤z)=true:=decide_eq_true aE;clear aE;refine yD H ?_ ?_<;>clear H<;>rintro aK H
         ·obtain⟨rfl,rfl⟩:=yp2 H;have B:0≤(z:Int):=of_decide_eq_true J2;have D:z<(l0.length:Int):=of_decide_eq_true J2;obtain⟨av,af,ag⟩:=Kd.at_int U.out z B D;cases af;replace B:=eq_true B;replace D:=eq_true D;go_wp2
          go_ret2
          exact⟨J3,J7⟩
         ·have H':=zq H;clear H;have B:0≤(z:Int):=of_decide_eq_true J2;have D:z<(l0.length:Int):=of_decide_eq_true J2;obtain⟨av,af,ag⟩:=Kd.at_int U.out z B D;cases af;replace B:=eq_true B;replace D:=eq_true D;go_wp2
          go_roundg k2
          case measure=>have:=O.out;have:=aD.out;omega
          case rel=>exact⟨(wrap64 (ae*(rd l0 z))),(wrap64 (z+1)),J3,J3,H',⟨by have:=O.out;have:=aD.out;omega⟩,J7⟩
        ·exact absurd H J92
       ·obtain⟨rfl,rfl⟩:=yp2 H;go_wp2
        go_ret2
        exact⟨J3,J7⟩
   have aw:=zq H;clear H;go_upto_region 7 with(fail);go_cut [27] (fun aL wc=>∃(kq:Nat)(aa:Bool),aL= .bool aa∧Aside0 (Xo.j1 kq l0 L s aa=some (r1,r2))∧Aside0 (kq≤k1)∧Drawn0 w wc);case first=>
    have H:=aw.out;clear aw;refine yj H ?_;clear H;intro aq H;(first|rw[aq]|(simp only[Xau,Xax];rw[aq])|skip);refine yD H ?_ ?_<;>clear H<;>rintro aO H
    ·have H':=zq H;clear H;have G:0≤(s:Int):=of_decide_eq_true J2;have I:s<(l0.length:Int):=of_decide_eq_true J2;obtain⟨ah,ai,aj⟩:=Kd.at_int U.out s G I;cases ai;replace G:=eq_true G;replace I:=eq_true I;go_wp2;go_meet;case rel=>exact⟨_,(true),J3,H',⟨by have:=O.out;first|omega|exact Nat.le_refl _⟩,J7⟩
    have H':=zq H;clear H;have G:0≤(s:Int):=of_decide_eq_true J2;have I:s<(l0.length:Int):=of_decide_eq_true J2;obtain⟨ah,ai,aj⟩:=Kd.at_int U.out s G I;cases ai;replace G:=eq_true G;replace I:=eq_true I;have ak:0≤(s:Int):=of_decide_eq_true J2;have al:s<(l0.length:Int):=of_decide_eq_true J2;obtain⟨ax,aF,aG⟩:=Kd.at_int U.out s ak al;obtain rfl:ah=ax:=(by injection aF);replace ak:=eq_true ak;replace al:=eq_true al;go_wp2;go_meet;case rel=>exact⟨_,(decide ((rd l0 s)>1048576)),J3,H',⟨by have:=O.out;first|omega|exact Nat.le_refl _⟩,J7⟩
   case rest=>
    clear aw;try clear c2
    try clear ab
    try clear ac
    try clear ap
    obtain⟨kq,aa,rfl,HA,ao,⟨aS,rfl⟩⟩:=hcut;cases kq with
    |zero=>exact absurd HA.out (by simp[Xo.j1])
    |succ aH=>
     have H:=HA.out;clear HA;simp only[Xo.j1]at H;refine yC H ?_ ?_<;>clear H<;>rintro rfl H
     ·obtain⟨rfl,rfl⟩:=yp2 H;go_wp2
      go_ret2
      exact⟨J3,J7⟩
     refine yj H ?_;clear H;intro aP H;refine yj H ?_;clear H;intro aQ H;refine yE H ?_ ?_<;>clear H<;>rintro⟨aM,aN,c10⟩ H
     ·have H':=zq H;clear H;have J:0≤(s:Int):=of_decide_eq_true J2;have K:s<(l0.length:Int):=of_decide_eq_true J2;obtain⟨ay,am,an⟩:=Kd.at_int U.out s J K;cases am;replace J:=eq_true J;replace K:=eq_true K;go_wp2
      go_roundg aH
      case measure=>have:=O.out;have:=ao.out;omega
      case rel=>exact⟨(L),(wrap64 (s+1)),J3,J3,H',⟨by have:=O.out;have:=ao.out;omega⟩,J7⟩
     clear c10;have H':=zq H;clear H;have J:0≤(s:Int):=of_decide_eq_true J2;have K:s<(l0.length:Int):=of_decide_eq_true J2;obtain⟨ay,am,an⟩:=Kd.at_int U.out s J K;cases am;replace J:=eq_true J;replace K:=eq_true K;go_wp2
     go_roundg aH
     case measure=>have:=O.out;have:=ao.out;omega
     case rel=>exact⟨(0),(wrap64 (s+1)),J3,J3,H',⟨by have:=O.out;have:=ao.out;omega⟩,J7⟩
end Go.Proofs.YtfjhiiaahbjaiaaGreatDoor.HSystemTells
