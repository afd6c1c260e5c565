/- Words and walks, shortened by a program: what this claim's functions answer, and that other memory stays. -/
import Derived.Test.YtfjhiiaahbjaiaaGreatDoorSSystemTellsx0
import Derived.Test.YtfjhiiaahbjaiaaGreatDoorSSystemTellsx17
namespace Go.Proofs.YtfjhiiaahbjaiaaGreatDoor.HSystemTells
open Go.RowKit Go.Proofs.YtfjhiiaahbjaiaaGreatDoorW.PrintWords Go.Proofs.YtfjhiiaahbjaiaaGreatDoorW.PrintWords.Kd Go.Proofs.YtfjhiiaahbjaiaaGreatDoorW.PrintLast Go.Proofs.YtfjhiiaahbjaiaaGreatDoorW.PrintMore Go.Proofs.YtfjhiiaahbjaiaaGreatDoorW.PrintMore.Kd
attribute [local go_sem] Xb2 Xb0 Xcd Xcc Xbq Xbp Xb1 Xbz
set_option linter.unusedVariables false
set_option linter.unusedSimpArgs false
mutual
def Xr.j0:Nat→List (S32)→Int→Bool→Option (Int×Int×Int)
 |0,_,_,_=>none
 |k+1,x0,x1,z=>if z=true then(some (0,0,0))else(if 0<(x0.length:Int)then((Xj.f k ((Xa x0 0).f0) ((Xa x0 0).f1) ((Xa x0 0).f2) ((Xa x0 0).f3)).bind fun s=>(if s.2=true then(if((Xa x0 0).f0)=5 then(Xr.l0 k x0 x1 s.1 1 s.1 0 0)else(some (1,s.1,1)))else(some (0,0,0))))else(none))
def Xr.l0:Nat→List (S32)→Int→Int→Int→Int→Int→Int→Option (Int×Int×Int)
 |0,_,_,_,_,_,_,_=>none
 |k+1,x0,x1,x7,x9,z,B,D=>if D<x7 then(if 0≤x9 then(if x9≤(x0.length:Int)then((Xr.f k (x0.drop (x9:Int).toNat) (wrap64 (x1-1))).bind fun s=>(if s.1=0 then(some (0,0,0))else(if(wrap64 (z+s.2.1))>1048576 then(some (0,0,0))else(Xr.l0 k x0 x1 x7 (wrap64 (x9+s.1)) (wrap64 (z+s.2.1)) (mx B s.2.2) (wrap64 (D+1))))))else(none))else(none))else(some (x9,z,wrap64 (B+1)))
def Xr.f:Nat→List (S32)→Int→Option (Int×Int×Int)
 |0,_,_=>none
 |k+1,l0,a1=>if(l0.length:Int)=0 then(Xr.j0 k l0 a1 true)else(Xr.j0 k l0 a1 (decide (a1<1)))
end
theorem Xr.mono_l:∀k,(∀y0 y1,LeO (Xr.f k y0 y1) (Xr.f (k+1) y0 y1))∧(∀y0 y1 y2,LeO (Xr.j0 k y0 y1 y2) (Xr.j0 (k+1) y0 y1 y2))∧(∀y0 y1 y2 y3 y4 y5 y6,LeO (Xr.l0 k y0 y1 y2 y3 y4 y5 y6) (Xr.l0 (k+1) y0 y1 y2 y3 y4 y5 y6))
 |0=>⟨fun _ _ r h=>by simp[Xr.f]at h,fun _ _ _ r h=>by simp[Xr.j0]at h,fun _ _ _ _ _ _ _ r h=>by simp[Xr.l0]at h⟩
 |k+1=>by
  obtain⟨ih0,ih1,ih2⟩:=Xr.mono_l k;refine⟨?_,?_,?_⟩
  ·intro y0 y1;unfold Xr.f;have im0:=@Xj.mono;exact mz3
  ·intro y0 y1 y2;unfold Xr.j0;have im0:=@Xj.mono;exact mz3
  ·intro y0 y1 y2 y3 y4 y5 y6;unfold Xr.l0;have im0:=@Xj.mono;exact mz3
theorem Xr.mono:∀a0 a1 k,LeO (Xr.f k a0 a1) (Xr.f (k+1) a0 a1):=by intro a0 a1 k;obtain⟨ih0,ih1,ih2⟩:=Xr.mono_l k;exact ih0 a0 a1
set_option maxHeartbeats 8000000 in
set_option maxRecDepth 100000 in
theorem Xr.calls(k:Nat):∀(A0:Option Addr)(c0:Nat)(l0:List (S32))(a1:Int)(r1:Int)(r2:Int)(r3:Int)(w:World)(bJ:Kd.C k32 w A0 l0.length l0)(bK:l0.length≤c0)(h:Xr.f k l0 a1=some (r1,r2,r3)),
  Calls Tryz.prog 81 #[.slice A0 l0.length c0,.int .i64 a1] w fun e w'=>e= .returned (.tuple #[.int .i64 r1,.int .i64 r2,.int .i64 r3])∧Below w.heap.size w w':=by
 induction k using Nat.strongRecOn with
 |_ k ih=>
 intro A0 c0 l0 a1 r1 r2 r3 w bJ bK h;cases k with
 |zero=>exact absurd h (by simp[Xr.f])
 |succ k=>
 simp only[Xr.f]at h;have cr:=Tryz.underlying32;have aG:=zq bJ;have bL:=zq bK;clear bJ bK;have HB:=zq (Below.refl w.heap.size w);have H:(if(l0.length:Int)=0 then(Xr.j0 k l0 a1 true)else(Xr.j0 k l0 a1 (decide (a1<1))))=some (r1,r2,r3):=h;clear h;have bM:=zq H;clear H;go_enter Tryz.func81,Tryz.ntmps81;go_upto_region 1 with(fail);go_cut [22] (fun b7 wc=>∃(kq:Nat)(aN:Bool),b7= .bool aN∧Aside0 (Xr.j0 kq l0 a1 aN=some (r1,r2,r3))∧Aside0 (kq≤k)∧Aside0 (Below w.heap.size w wc));case first=>
  have H:=bM.out;clear bM;refine yE H ?_ ?_<;>clear H<;>rintro⟨aP,ct,c4⟩ H
  ·have cu:¬(l0=[]):=fun h_=>c4 (by rw[h_];rfl);(first|rw[aP]|(simp only[Xau,Xax];rw[aP])|skip);have H':=zq H;clear H;go_wp2;go_meet;case rel=>exact⟨_,(decide (a1<1)),J3,H',⟨J42⟩,⟨J0⟩⟩
  clear c4;(first|rw[aP]|(simp only[Xau,Xax];rw[aP])|skip);have H':=zq H;clear H;go_wp2;go_meet;case rel=>exact⟨_,(true),J3,H',⟨J42⟩,⟨J0⟩⟩
 case rest=>
  clear bM;obtain⟨kq,aN,rfl,HA,a7,HB⟩:=hcut;cases kq with
  |zero=>exact absurd HA.out (by simp[Xr.j0])
  |succ a8=>
   have H:=HA.out;clear HA;simp only[Xr.j0]at H;refine yC H ?_ ?_<;>clear H<;>rintro rfl H
   ·obtain⟨rfl,rfl,rfl⟩:=yp3 H;go_wp2
    go_ret3
    exact⟨J1,J0⟩
   refine yi H ?_;clear H;intro c6 H;have bU:=decide_eq_true c6;have bV:decide (0<l0.length)=true:=decide_eq_true J28;clear c6;refine yv H ?_;clear H;rintro⟨ap,cv⟩ A7 H;dsimp only at H;refine yB H ?_ ?_<;>clear H<;>rintro rfl H
   ·obtain⟨rfl,rfl,rfl⟩:=yp3 H;obtain⟨I,aQ,aR,aS,aT,aU,aV,aH,aq,ar,au,av,K,L,O,U,aa,ab,a9,ba,bb⟩:=Xfd aG.out HB.out;cases aH;go_wp2_with(first|((with_reducible refine Xh (f:=89) rfl ?_);refine gL Tryz.func89 (Xj.calls a8 ((Xa l0 0).f0) _ _ ((Xa l0 0).f1) _ _ ((Xa l0 0).f2) _ _ ((Xa l0 0).f3) ap false _ (zc (lp K.out HB.out)) L.out (zc (lp O.out HB.out)) U.out (zc (lp aa.out HB.out)) ab.out A7.out) ?_;rintro e cF ⟨rfl,hb⟩;refine⟨_,rfl,?_⟩;replace HB:=zq (Xb J0 hb);(try clear hb)))
    go_ret3
    exact⟨J1,J0⟩
   refine yE H ?_ ?_<;>clear H<;>rintro⟨bW,bX,c9⟩ H
   ·obtain⟨rfl,rfl,rfl⟩:=yp3 H;obtain⟨I,aQ,aR,aS,aT,aU,aV,aH,aq,ar,au,av,K,L,O,U,aa,ab,a9,ba,bb⟩:=Xfd aG.out HB.out;cases aH;go_wp2_with(first|((with_reducible refine Xh (f:=89) rfl ?_);refine gL Tryz.func89 (Xj.calls a8 ((Xa l0 0).f0) _ _ ((Xa l0 0).f1) _ _ ((Xa l0 0).f2) _ _ ((Xa l0 0).f3) ap true _ (zc (lp K.out HB.out)) L.out (zc (lp O.out HB.out)) U.out (zc (lp aa.out HB.out)) ab.out A7.out) ?_;rintro e cG ⟨rfl,hb⟩;refine⟨_,rfl,?_⟩;replace HB:=zq (Xb J0 hb);(try clear hb);have an:0≤(0:Int):=J28;have ao:0<(l0.length:Int):=of_decide_eq_true J2;obtain⟨aO,bv,bw,bx,bz,bA,bB,bc,z,B,D,G,ac,ae,af,ag,ah,ai⟩:=Xcs aG.out 0 an ao;obtain rfl:I=aO:=(by injection bc);have bN:(0<l0.length)=True:=eq_true J28;(try rw[show((0:Int)).toNat=0 from rfl]at z);(try rw[show 0*4=0 from rfl]at z);(try rw[Addr.add_zero']at z);(try rw[show((0:Int)).toNat=0 from rfl]at B);(try rw[show 0*4=0 from rfl]at B);(try rw[Addr.add_zero']at B);(try rw[show((0:Int)).toNat=0 from rfl]at D);(try rw[show 0*4=0 from rfl]at D);(try rw[Addr.add_zero']at D);(try rw[show((0:Int)).toNat=0 from rfl]at G);(try rw[show 0*4=0 from rfl]at G);(try rw[Addr.add_zero']at G);replace z:=yh HB z;replace B:=yh HB B;replace D:=yh HB D;replace G:=yh HB G;have bd:=zq ae;have be:=zq ac;clear ae ac;have bf:=zq ag;have bg:=zq af;clear ag af;have bh:=zq ai;have bi:=zq ah;clear ai ah;replace an:=eq_true an;replace ao:=eq_true ao))
    go_ret3
    exact⟨J1,J0⟩
   clear c9;have H':=zq H;clear H;obtain⟨I,aQ,aR,aS,aT,aU,aV,aH,aq,ar,au,av,K,L,O,U,aa,ab,a9,ba,bb⟩:=Xfd aG.out HB.out;cases aH;go_wp2_with(first|((with_reducible refine Xh (f:=89) rfl ?_);refine gL Tryz.func89 (Xj.calls a8 ((Xa l0 0).f0) _ _ ((Xa l0 0).f1) _ _ ((Xa l0 0).f2) _ _ ((Xa l0 0).f3) ap true _ (zc (lp K.out HB.out)) L.out (zc (lp O.out HB.out)) U.out (zc (lp aa.out HB.out)) ab.out A7.out) ?_;rintro e cH ⟨rfl,hb⟩;refine⟨_,rfl,?_⟩;replace HB:=zq (Xb J0 hb);(try clear hb);have an:0≤(0:Int):=J28;have ao:0<(l0.length:Int):=of_decide_eq_true J2;obtain⟨aO,bv,bw,bx,bz,bA,bB,bc,z,B,D,G,ac,ae,af,ag,ah,ai⟩:=Xcs aG.out 0 an ao;obtain rfl:I=aO:=(by injection bc);have bN:(0<l0.length)=True:=eq_true J28;(try rw[show((0:Int)).toNat=0 from rfl]at z);(try rw[show 0*4=0 from rfl]at z);(try rw[Addr.add_zero']at z);(try rw[show((0:Int)).toNat=0 from rfl]at B);(try rw[show 0*4=0 from rfl]at B);(try rw[Addr.add_zero']at B);(try rw[show((0:Int)).toNat=0 from rfl]at D);(try rw[show 0*4=0 from rfl]at D);(try rw[Addr.add_zero']at D);(try rw[show((0:Int)).toNat=0 from rfl]at G);(try rw[show 0*4=0 from rfl]at G);(try rw[Addr.add_zero']at G);replace z:=yh HB z;replace B:=yh HB B;replace D:=yh HB D;replace G:=yh HB G;have bd:=zq ae;have be:=zq ac;clear ae ac;have bf:=zq ag;have bg:=zq af;clear ag af;have bh:=zq ai;have bi:=zq ah;clear ai ah;replace an:=eq_true an;replace ao:=eq_true ao))
   go_loopg [9,10,11,12] a8 (fun kq v9 b8 b9 ca w'=>∃(s:Int)(aj:Int)(ak:Int)(al:Int),v9= .int .i64 s∧b8= .int .i64 aj∧b9= .int .i64 ak∧ca= .int .i64 al∧Aside0 (Xr.l0 kq l0 a1 ap s aj ak al=some (r1,r2,r3))∧Aside0 (kq≤a8)∧Aside0 (Below w.heap.size w w'))
   case atStart=>exact⟨(1),(ap),(0),(0),J3,J3,J3,J3,H',⟨Nat.le_refl _⟩,⟨J0⟩⟩
   case round=>
    clear H';try clear c6
    try clear bU
    try clear bV
    try clear c9
    try clear bW
    try clear bX
    try clear aq
    try clear ar
    try clear au
    try clear av
    try clear z
    try clear B
    try clear D
    try clear G
    try clear a9
    try clear an
    try clear ba
    try clear ao
    obtain⟨s,aj,ak,al,rfl,rfl,rfl,rfl,HA,bj,HB⟩:=hrel;cases gk with
    |zero=>exact absurd HA.out (by simp[Xr.l0])
    |succ k2=>
     have H:=HA.out;clear HA;simp only[Xr.l0]at H;refine yd H ?_ ?_<;>clear H<;>rintro cb H
     ·obtain⟨rfl,rfl,rfl⟩:=yp3 H;go_wp2
      go_ret3
      exact⟨J1,J0⟩
     refine yi H ?_;clear H;intro bO H;have cc:=eq_true bO;have cd:=decide_eq_true bO;clear bO;refine yi H ?_;clear H;intro bP H;have cf:=eq_true bP;have cg:=decide_eq_true bP;clear bP;obtain⟨J,aw⟩:∃y_:List (S32),y_=(l0.drop (s:Int).toNat):=⟨_,rfl⟩;replace H:((Xr.f k2 J (wrap64 (a1-1))).bind fun ax=>(if ax.1=0 then(some (0,0,0))else(if(wrap64 (aj+ax.2.1))>1048576 then(some (0,0,0))else(Xr.l0 k2 l0 a1 ap (wrap64 (s+ax.1)) (wrap64 (aj+ax.2.1)) (mx ak ax.2.2) (wrap64 (al+1))))))=some (r1,r2,r3):=by first|(rw[aw];with_reducible exact H)|(have bQ:=(Option.bind_some _ _).symm.trans H;rw[aw];with_reducible exact bQ)|(have bQ:=(Option.bind_some _ _).symm.trans H;with_reducible exact bQ)|with_reducible exact H|(rw[aw];exact H)|exact H
     have am:=zq aw;clear aw;refine yv H ?_;clear H;rintro⟨aI,aJ,aF⟩ bC H;dsimp only at H;refine yF H ?_ ?_<;>clear H<;>rintro⟨ch,ci,cj⟩ H
     ·clear cj;obtain⟨rfl,rfl,rfl⟩:=yp3 H;have bR:(s:Int)≤((l0.length:Int):Int):=of_decide_eq_true J2;obtain⟨cw,bk,_,bl,_⟩:=info_parts Xdg;have ay:l0.length≤c0:=bL.out;have bG:Kd.C k32 _ (some I) l0.length l0:=aG.out;have bY:(0:Int)≤(s:Int):=of_decide_eq_true J2;have bD:=Xeg (P:=Tryz.prog) 22 32 .i64 Tryz.underlying22 bk 4 bl (some I) l0.length c0 s bY bR;have aK:=mH (m:=(s:Int).toNat) (c:=c0) bG J28 ay;obtain⟨ck,aW⟩:∃A_,A_=(if c0=(s:Int).toNat then(some I)else((some I):Option Addr).map (·.add ((s:Int).toNat*4))):=⟨_,rfl⟩;obtain⟨cl,bm⟩:∃c_,c_=c0-(s:Int).toNat:=⟨_,rfl⟩;have aX:J.length=l0.length-(s:Int).toNat:=(by rw[am.out,List.length_drop]<;>omega);rw[show(l0).drop (s:Int).toNat=J from am.out.symm]at aK;replace aK:Kd.C k32 _ ck J.length J:=(by rw[aW];exact aK);rw[←aX,←aW,←bm]at bD;have aA:=zq aK;have aB:=zq (show J.length≤cl from by rw[aX,bm];exact Nat.sub_le_sub_right ay _);clear aK bG ay bk bl bm;have cx:=zq aX;have cy:=zq aW;clear aX aW;replace bR:=eq_true bR;go_wp2_with(first|((with_reducible refine Xh (f:=81) rfl ?_);refine gL Tryz.func81 (ih k2 (by have:=a7.out;have:=bj.out;omega) _ _ J (wrap64 (a1-1)) aI aJ aF _ (zc (lp aA.out HB.out)) aB.out bC.out) ?_;rintro e cI ⟨rfl,hb⟩;refine⟨_,rfl,?_⟩;replace HB:=zq (Xb J0 hb);(try clear hb)))
      go_ret3
      exact⟨J1,J0⟩
     refine yD H ?_ ?_<;>clear H<;>rintro cm H
     ·obtain⟨rfl,rfl,rfl⟩:=yp3 H;have bS:(s:Int)≤((l0.length:Int):Int):=of_decide_eq_true J2;obtain⟨cz,bn,_,bo,_⟩:=info_parts Xdg;have aC:l0.length≤c0:=bL.out;have bH:Kd.C k32 _ (some I) l0.length l0:=aG.out;have bZ:(0:Int)≤(s:Int):=of_decide_eq_true J2;have bE:=Xeg (P:=Tryz.prog) 22 32 .i64 Tryz.underlying22 bn 4 bo (some I) l0.length c0 s bZ bS;have aL:=mH (m:=(s:Int).toNat) (c:=c0) bH J28 aC;obtain⟨cn,aY⟩:∃A_,A_=(if c0=(s:Int).toNat then(some I)else((some I):Option Addr).map (·.add ((s:Int).toNat*4))):=⟨_,rfl⟩;obtain⟨co,bp⟩:∃c_,c_=c0-(s:Int).toNat:=⟨_,rfl⟩;have aZ:J.length=l0.length-(s:Int).toNat:=(by rw[am.out,List.length_drop]<;>omega);rw[show(l0).drop (s:Int).toNat=J from am.out.symm]at aL;replace aL:Kd.C k32 _ cn J.length J:=(by rw[aY];exact aL);rw[←aZ,←aY,←bp]at bE;have aA:=zq aL;have aB:=zq (show J.length≤co from by rw[aZ,bp];exact Nat.sub_le_sub_right aC _);clear aL bH aC bn bo bp;have cA:=zq aZ;have cB:=zq aY;clear aZ aY;replace bS:=eq_true bS;go_wp2_with(first|((with_reducible refine Xh (f:=81) rfl ?_);refine gL Tryz.func81 (ih k2 (by have:=a7.out;have:=bj.out;omega) _ _ J (wrap64 (a1-1)) aI aJ aF _ (zc (lp aA.out HB.out)) aB.out bC.out) ?_;rintro e cJ ⟨rfl,hb⟩;refine⟨_,rfl,?_⟩;replace HB:=zq (Xb J0 hb);(try clear hb)))
      go_ret3
      exact⟨J1,J0⟩
     obtain⟨bq,aD⟩:∃j_:Int,(mx ak aF)=j_:=⟨_,rfl⟩;replace H:(Xr.l0 k2 l0 a1 ap (wrap64 (s+aI)) (wrap64 (aj+aJ)) bq (wrap64 (al+1)))=some (r1,r2,r3):=by first|(rw[aD]at H;exact H)|(simp only[aD]at H⊢;exact H)
     (try rw[aD]at bC);have b6:(if ak<aF then aF else ak)=bq:=aD;have H':=zq H;clear H;have bT:(s:Int)≤((l0.length:Int):Int):=of_decide_eq_true J2;obtain⟨cC,br,_,bs,_⟩:=info_parts Xdg;have aE:l0.length≤c0:=bL.out;have bI:Kd.C k32 _ (some I) l0.length l0:=aG.out;have b5:(0:Int)≤(s:Int):=of_decide_eq_true J2;have bF:=Xeg (P:=Tryz.prog) 22 32 .i64 Tryz.underlying22 br 4 bs (some I) l0.length c0 s b5 bT;have aM:=mH (m:=(s:Int).toNat) (c:=c0) bI J28 aE;obtain⟨cp,a5⟩:∃A_,A_=(if c0=(s:Int).toNat then(some I)else((some I):Option Addr).map (·.add ((s:Int).toNat*4))):=⟨_,rfl⟩;obtain⟨cq,bu⟩:∃c_,c_=c0-(s:Int).toNat:=⟨_,rfl⟩;have a6:J.length=l0.length-(s:Int).toNat:=(by rw[am.out,List.length_drop]<;>omega);rw[show(l0).drop (s:Int).toNat=J from am.out.symm]at aM;replace aM:Kd.C k32 _ cp J.length J:=(by rw[a5];exact aM);rw[←a6,←a5,←bu]at bF;have aA:=zq aM;have aB:=zq (show J.length≤cq from by rw[a6,bu];exact Nat.sub_le_sub_right aE _);clear aM bI aE br bs bu;have cD:=zq a6;have cE:=zq a5;clear a6 a5;replace bT:=eq_true bT;go_wp2_with(first|((with_reducible refine Xh (f:=81) rfl ?_);refine gL Tryz.func81 (ih k2 (by have:=a7.out;have:=bj.out;omega) _ _ J (wrap64 (a1-1)) aI aJ aF _ (zc (lp aA.out HB.out)) aB.out bC.out) ?_;rintro e cK ⟨rfl,hb⟩;refine⟨_,rfl,?_⟩;replace HB:=zq (Xb J0 hb);(try clear hb)))
     go_roundg k2
     case measure=>have:=a7.out;have:=bj.out;omega
     case rel=>exact⟨(wrap64 (s+aI)),(wrap64 (aj+aJ)),(bq),(wrap64 (al+1)),J3,J3,(by first|rfl|(simp;done)|(simp only[←aD]<;>(first|rfl|simp))|(simp[*];done)),J3,H',⟨by have:=a7.out;have:=bj.out;omega⟩,⟨J0⟩⟩
def Xbx.f(k:Nat)(l0:List (S32)):Option (Int):=(Xr.f k l0 16).bind fun s=>(some s.1)
theorem Xbx.mono:∀a0 k,LeO (Xbx.f k a0) (Xbx.f (k+1) a0):=by intro a0 k;unfold Xbx.f;have im0:=@Xr.mono;exact mz3
set_option maxHeartbeats 8000000 in
set_option maxRecDepth 100000 in
theorem Xbx.calls(k:Nat)(A0:Option Addr)(c0:Nat)(l0:List (S32))(r:Int)(w:World)(z:Kd.C k32 w A0 l0.length l0)(B:l0.length≤c0)(h:Xbx.f k l0=some r):
  Calls Tryz.prog 64 #[.slice A0 l0.length c0] w fun e w'=>e= .returned (.int .i64 r)∧Below w.heap.size w w':=by
 have J:=zq z;have K:=zq B;clear z B;have HB:=zq (Below.refl w.heap.size w);unfold Xbx.f at h;have H:=h;clear h;replace H:=Option.bind_eq_some_iff.mp H;obtain⟨⟨s,D,G⟩,I,H⟩:=H;replace H:(some s)=some r:=H;have A2:=zq I;clear I;obtain rfl:=yo H;go_enter Tryz.func64,Tryz.ntmps64;go_wp2_with(first|((with_reducible refine Xh (f:=81) rfl ?_);refine gL Tryz.func81 (Xr.calls k _ _ l0 16 s D G _ (zc J.out) K.out A2.out) ?_;rintro e w3 ⟨rfl,hb⟩;refine⟨_,rfl,?_⟩;replace HB:=zq (Xb J0 hb);(try clear hb)));go_ret;exact⟨J1,J0⟩
def Xaz.f(k:Nat)(l0:List (S32)):Option (Bool):=if(l0.length:Int)>0 then((Xbx.f k l0).bind fun s=>(some (s==(l0.length:Int))))else(some false)
theorem Xaz.mono:∀a0 k,LeO (Xaz.f k a0) (Xaz.f (k+1) a0):=by intro a0 k;unfold Xaz.f;have im0:=@Xbx.mono;exact mz3
set_option maxHeartbeats 8000000 in
set_option maxRecDepth 100000 in
theorem Xaz.calls(k:Nat)(A0:Option Addr)(c0:Nat)(l0:List (S32))(r:Bool)(w:World)(s:Kd.C k32 w A0 l0.length l0)(z:l0.length≤c0)(h:Xaz.f k l0=some r):
  Calls Tryz.prog 45 #[.slice A0 l0.length c0] w fun e w'=>e= .returned (.bool r)∧Below w.heap.size w w':=by
 have I:=zq s;have J:=zq z;clear s z;have HB:=zq (Below.refl w.heap.size w);unfold Xaz.f at h;have H:=h;clear h;refine yt H ?_ ?_<;>clear H<;>rintro c2 H
 ·have B:decide (0<(l0.length:Int))=false:=decide_eq_false c2;have D:decide (0<l0.length)=false:=decide_eq_false J28;clear c2;obtain rfl:=yo H;go_enter Tryz.func45,Tryz.ntmps45;go_wp2;go_ret;exact⟨J1,J0⟩
 have B:=decide_eq_true c2;have D:decide (0<l0.length)=true:=decide_eq_true J28;clear c2;refine yv H ?_;clear H;rintro G A3 H;obtain rfl:=yo H;go_enter Tryz.func45,Tryz.ntmps45;go_wp2_with(first|(go_at_call 64;(with_reducible refine(Xbx.calls k _ _ l0 G _ ?side1 ?side2 A3.out).mono ?_);(case side1=>exact zc I.out);(case side2=>exact J.out);rintro e w4 ⟨rfl,hb⟩;replace HB:=zq (Xb J0 hb);(try clear hb)));go_ret;exact⟨J1,J0⟩
end Go.Proofs.YtfjhiiaahbjaiaaGreatDoor.HSystemTells
