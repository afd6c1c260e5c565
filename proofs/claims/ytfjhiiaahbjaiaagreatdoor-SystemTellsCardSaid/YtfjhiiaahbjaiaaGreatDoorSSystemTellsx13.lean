/- Words and walks, shortened by a program: what this claim's functions answer, and that other memory stays. -/
import Derived.Test.YtfjhiiaahbjaiaaGreatDoorSSystemTellsx0
import Derived.Test.YtfjhiiaahbjaiaaGreatDoorSSystemTellsx2
namespace Go.Proofs.YtfjhiiaahbjaiaaGreatDoor.HSystemTells
open Go.RowKit Go.Proofs.YtfjhiiaahbjaiaaGreatDoorW.PrintWords Go.Proofs.YtfjhiiaahbjaiaaGreatDoorW.PrintWords.Kd Go.Proofs.YtfjhiiaahbjaiaaGreatDoorW.PrintLast Go.Proofs.YtfjhiiaahbjaiaaGreatDoorW.PrintMore Go.Proofs.YtfjhiiaahbjaiaaGreatDoorW.PrintMore.Kd
attribute [local go_sem] Xb2 Xb0 Xcd Xcc Xbq Xbp Xb1 Xbz
set_option linter.unusedVariables false
set_option linter.unusedSimpArgs false
def Xbd.f(k:Nat)(l0:List (S32)):Option (Int×Int×Bool):=if 0<(l0.length:Int)then(if(((Xa l0 0).f1).length:Int)>0 then(some (0,0,false))else(if((Xa l0 0).f0)=4 then(if 0<(((Xa l0 0).f3).length:Int)then(some ((Xw ((Xa l0 0).f3) 0).f0,(Xw ((Xa l0 0).f3) 0).f1,true))else(none))else(if((Xa l0 0).f0)=1 then(if 0<(((Xa l0 0).f2).length:Int)then((Xba.f k (rd ((Xa l0 0).f2) 0)).bind fun s=>(some (s.1,s.2,true)))else(none))else(if((Xa l0 0).f0)=2 then(if 0<(((Xa l0 0).f2).length:Int)then((Xba.f k (rd ((Xa l0 0).f2) 0)).bind fun z=>(some (z.1,z.2,true)))else(none))else(some (0,0,false))))))else(none)
theorem Xbd.mono:∀a0 k,LeO (Xbd.f k a0) (Xbd.f (k+1) a0):=by intro a0 k;unfold Xbd.f;have im0:=@Xba.mono;exact mz3
set_option maxHeartbeats 8000000 in
set_option maxRecDepth 100000 in
theorem Xbd.calls(k:Nat)(A0:Option Addr)(c0:Nat)(l0:List (S32))(r1:Int)(r2:Int)(r3:Bool)(w:World)(a6:Kd.C k32 w A0 l0.length l0)(a7:l0.length≤c0)(h:Xbd.f k l0=some (r1,r2,r3)):
  Calls Tryz.prog 18 #[.slice A0 l0.length c0] w fun e w'=>e= .returned (.tuple #[.agg #[.int .i64 r1,.int .i64 r2],.bool r3])∧Below w.heap.size w w':=by
 have bG:=Tryz.underlying35;have bH:=Tryz.underlying32;have aQ:=zq a6;have bO:=zq a7;clear a6 a7;have HB:=zq (Below.refl w.heap.size w);unfold Xbd.f at h;have H:=h;clear h;refine yi H ?_;clear H;intro c2 H;have bI:=decide_eq_true c2;have bJ:decide (0<l0.length)=true:=decide_eq_true J28;clear c2;refine yu H ?_ ?_<;>clear H<;>rintro c3 H
 ·have a8:decide (0<(((Xa l0 0).f1).length:Int))=true:=decide_eq_true c3;have a9:decide (0<((Xa l0 0).f1).length)=true:=decide_eq_true J28;clear c3;obtain⟨rfl,rfl,rfl⟩:=yp3 H;go_enter Tryz.func18,Tryz.ntmps18;go_wp2_with(first|((with_reducible refine Xk (N:=2) rfl ?_);refine bxw 2 35 #[.int .i64 0,.int .i64 0] ?_;intro D hg w4 hbox hb;have B:=zq (hbox);have I:=zq ((J20:w.heap.size≤D));replace HB:=zq (Xb J0 hb);clear hb hbox hg;obtain⟨aE,U,aa,ak,ab,ah,af,an,ao,ap,aq,ar,au,av,ai,aw,aj,ax,aO,aP,aF⟩:=Xfd aQ.out HB.out;cases an)|((with_reducible refine Xk (N:=4) rfl ?_);refine bxw 4 32 #[.int .i64 0,.slice none 0 0,.slice none 0 0,.slice none 0 0] ?_;intro z hg w5 hbox hb;have ae:=zq (hbox);have ac:=zq ((J117:w.heap.size≤z));have ag:=zq ((J117:w.heap.size≤z));replace HB:=zq (Xb (zs1 I.out) hb);have s:=zq ((J110:D≠z));have O:=zq ((J111:z≠D));replace B:=zq (Xg (zk B.out) hb);clear hb hbox hg;have bK:=O.out;have bL:=s.out;have Z7:=cz4 ae.out;have Z8:=cz2 B.out));refine bodyPost_ret (Xa9 rfl _ _ D 35 #[.int .i64 0,.int .i64 0] (0,0) _ rfl J55 Tryz.underlying35 rfl J30) rfl ?_;exact⟨J1,J71⟩
 have a8:=decide_eq_false c3;have a9:decide (0<((Xa l0 0).f1).length)=false:=decide_eq_false J28;clear c3;refine yF H ?_ ?_<;>clear H<;>rintro⟨bM,bN,c9⟩ H
 ·clear c9;refine yu H ?_ ?_<;>clear H<;>rintro c10 H
  ·have bf:decide (0<(((Xa l0 0).f3).length:Int))=true:=decide_eq_true c10;have bg:decide (0<((Xa l0 0).f3).length)=true:=decide_eq_true J28;clear c10;obtain⟨rfl,rfl,rfl⟩:=yp3 H;go_enter Tryz.func18,Tryz.ntmps18;go_wp2_with(first|((with_reducible refine Xk (N:=2) rfl ?_);refine bxw 2 35 #[.int .i64 0,.int .i64 0] ?_;intro D hg bP hbox hb;have B:=zq (hbox);have I:=zq ((J20:w.heap.size≤D));replace HB:=zq (Xb J0 hb);clear hb hbox hg;obtain⟨aE,U,aa,ak,ab,ah,af,an,ao,ap,aq,ar,au,av,ai,aw,aj,ax,aO,aP,aF⟩:=Xfd aQ.out HB.out;cases an)|((with_reducible refine Xk (N:=4) rfl ?_);refine bxw 4 32 #[.int .i64 0,.slice none 0 0,.slice none 0 0,.slice none 0 0] ?_;intro z hg bQ hbox hb;have ae:=zq (hbox);have ac:=zq ((J117:w.heap.size≤z));have ag:=zq ((J117:w.heap.size≤z));replace HB:=zq (Xb (zs1 I.out) hb);have s:=zq ((J110:D≠z));have O:=zq ((J111:z≠D));replace B:=zq (Xg (zk B.out) hb);clear hb hbox hg;have bh:=O.out;have bi:=s.out;have bR:=cz4 ae.out;have aR:0≤(0:Int):=J28;have aS:0<(((Xa l0 0).f3).length:Int):=of_decide_eq_true J2;obtain⟨ay,ba,G,L⟩:=Xdq aj.out 0 aR aS;cases ba;have bj:(0<((Xa l0 0).f3).length)=True:=eq_true J28;(try rw[show((0:Int)).toNat=0 from rfl]at G);(try rw[show 0*2=0 from rfl]at G);(try rw[Addr.add_zero']at G);(try rw[show((0:Int)).toNat=0 from rfl]at L);(try rw[show 0*2=0 from rfl]at L);(try rw[Addr.add_zero']at L);have aA:ay.block≠z:=Nat.ne_of_lt (Nat.lt_of_lt_of_le J138 ac.out);have aB:ay.block≠z:=Nat.ne_of_lt (Nat.lt_of_lt_of_le J138 ac.out);have aC:ay.block≠z:=Nat.ne_of_lt (Nat.lt_of_lt_of_le J138 ac.out);have aD:ay.block≠z:=Nat.ne_of_lt (Nat.lt_of_lt_of_le J138 ac.out);replace G:=yh HB G;replace L:=yh HB L;replace G:=(Xm (p:=⟨z,0,none⟩) (zb aA) (.int .i64 ((Xa l0 0).f0))).trans G;replace L:=(Xm (p:=⟨z,0,none⟩) (zb aA) (.int .i64 ((Xa l0 0).f0))).trans L;replace G:=(Xm (p:=⟨z,1,none⟩) (zb aB) (.slice U ((Xa l0 0).f1).length aa)).trans G;replace L:=(Xm (p:=⟨z,1,none⟩) (zb aB) (.slice U ((Xa l0 0).f1).length aa)).trans L;replace G:=(Xm (p:=⟨z,2,none⟩) (zb aC) (.slice ak ((Xa l0 0).f2).length ab)).trans G;replace L:=(Xm (p:=⟨z,2,none⟩) (zb aC) (.slice ak ((Xa l0 0).f2).length ab)).trans L;replace G:=(Xm (p:=⟨z,3,none⟩) (zb aD) (.slice (some ay) ((Xa l0 0).f3).length af)).trans G;replace L:=(Xm (p:=⟨z,3,none⟩) (zb aD) (.slice (some ay) ((Xa l0 0).f3).length af)).trans L;clear aA;clear aB;clear aC;clear aD;replace aR:=eq_true aR;replace aS:=eq_true aS;have bS:=cz2 B.out));refine bodyPost_ret (Xa9 rfl _ _ D 35 #[.int .i64 ((Xw ((Xa l0 0).f3) 0).f0),.int .i64 ((Xw ((Xa l0 0).f3) 0).f1)] (0,0) _ rfl (by(with_reducible repeat(first|refine Xd ?_ _|refine Xf ?_|refine Xc ?_ _));refine Xp (cs:=#[.int .i64 ((Xw ((Xa l0 0).f3) 0).f0),.int .i64 0]) ?_ 1 _ rfl;(with_reducible repeat(first|refine Xd ?_ _|refine Xf ?_|refine Xc ?_ _));refine Xp (cs:=#[.int .i64 0,.int .i64 0]) ?_ 0 _ rfl;(with_reducible repeat(first|refine Xd ?_ _|refine Xf ?_|refine Xc ?_ _));refine X1 ?_ s.out _;(with_reducible repeat(first|refine Xd ?_ _|refine Xf ?_|refine Xc ?_ _));refine X1 ?_ s.out _;(with_reducible repeat(first|refine Xd ?_ _|refine Xf ?_|refine Xc ?_ _));refine X1 ?_ s.out _;(with_reducible repeat(first|refine Xd ?_ _|refine Xf ?_|refine Xc ?_ _));refine X1 ?_ s.out _;(with_reducible repeat(first|refine Xd ?_ _|refine Xf ?_|refine Xc ?_ _));exact B.out) Tryz.underlying35 rfl J30) rfl ?_;exact⟨J1,J71⟩
  ·exact absurd H J92
 refine yF H ?_ ?_<;>clear H<;>rintro⟨bk,bl,bm⟩ H
 ·clear bm;refine yu H ?_ ?_<;>clear H<;>rintro bb H
  ·have bn:decide (0<(((Xa l0 0).f2).length:Int))=true:=decide_eq_true bb;have bo:decide (0<((Xa l0 0).f2).length)=true:=decide_eq_true J28;clear bb;refine yv H ?_;clear H;rintro⟨aT,aZ⟩ bp H;dsimp only at H;obtain⟨rfl,rfl,rfl⟩:=yp3 H;go_enter Tryz.func18,Tryz.ntmps18;go_wp2_with(first|((with_reducible refine Xk (N:=2) rfl ?_);refine bxw 2 35 #[.int .i64 0,.int .i64 0] ?_;intro D hg bT hbox hb;have B:=zq (hbox);have I:=zq ((J20:w.heap.size≤D));replace HB:=zq (Xb J0 hb);clear hb hbox hg;obtain⟨aE,U,aa,ak,ab,ah,af,an,ao,ap,aq,ar,au,av,ai,aw,aj,ax,aO,aP,aF⟩:=Xfd aQ.out HB.out;cases an)|((with_reducible refine Xk (N:=4) rfl ?_);refine bxw 4 32 #[.int .i64 0,.slice none 0 0,.slice none 0 0,.slice none 0 0] ?_;intro z hg bU hbox hb;have ae:=zq (hbox);have ac:=zq ((J117:w.heap.size≤z));have ag:=zq ((J117:w.heap.size≤z));replace HB:=zq (Xb (zs1 I.out) hb);have s:=zq ((J110:D≠z));have O:=zq ((J111:z≠D));replace B:=zq (Xg (zk B.out) hb);clear hb hbox hg;have bq:=O.out;have br:=s.out;have bV:=cz4 ae.out;have aU:0≤(0:Int):=J28;have aV:0<(((Xa l0 0).f2).length:Int):=of_decide_eq_true J2;obtain⟨al,bc,J⟩:=Kd.at_int ai.out 0 aU aV;cases bc;have bs:(0<((Xa l0 0).f2).length)=True:=eq_true J28;(try rw[show((0:Int)).toNat=0 from rfl]at J);(try rw[Addr.add_zero']at J);have aG:al.block≠z:=Nat.ne_of_lt (Nat.lt_of_lt_of_le J139 ac.out);have aH:al.block≠z:=Nat.ne_of_lt (Nat.lt_of_lt_of_le J139 ac.out);have aI:al.block≠z:=Nat.ne_of_lt (Nat.lt_of_lt_of_le J139 ac.out);have aJ:al.block≠z:=Nat.ne_of_lt (Nat.lt_of_lt_of_le J139 ac.out);replace J:=yh HB J;replace J:=(Xm (p:=⟨z,0,none⟩) (zb aG) (.int .i64 ((Xa l0 0).f0))).trans J;replace J:=(Xm (p:=⟨z,1,none⟩) (zb aH) (.slice U ((Xa l0 0).f1).length aa)).trans J;replace J:=(Xm (p:=⟨z,2,none⟩) (zb aI) (.slice (some al) ((Xa l0 0).f2).length ab)).trans J;replace J:=(Xm (p:=⟨z,3,none⟩) (zb aJ) (.slice ah ((Xa l0 0).f3).length af)).trans J;clear aG;clear aH;clear aI;clear aJ;replace aU:=eq_true aU;replace aV:=eq_true aV)|((with_reducible refine Xh (f:=14) rfl ?_);refine gL Tryz.func14 (Xba.calls k (rd ((Xa l0 0).f2) 0) aT aZ _ bp.out) ?_;rintro e bW ⟨rfl,hb⟩;refine⟨_,rfl,?_⟩;replace B:=zq (Xg (g:=D) (o:=.cells #[.int .i64 0,.int .i64 0] 35 (0,0)) J84 hb);replace ae:=zq (Xg (g:=z) (o:=.cells #[.int .i64 ((Xa l0 0).f0),.slice U ((Xa l0 0).f1).length aa,.slice (some al) ((Xa l0 0).f2).length ab,.slice ah ((Xa l0 0).f3).length af] 32 (0,0)) (by(with_reducible repeat(first|refine Xd ?_ _|refine Xf ?_|refine Xc ?_ _));refine Xp (cs:=#[.int .i64 ((Xa l0 0).f0),.slice U ((Xa l0 0).f1).length aa,.slice (some al) ((Xa l0 0).f2).length ab,.slice none 0 0]) ?_ 3 _ rfl;(with_reducible repeat(first|refine Xd ?_ _|refine Xf ?_|refine Xc ?_ _));refine Xp (cs:=#[.int .i64 ((Xa l0 0).f0),.slice U ((Xa l0 0).f1).length aa,.slice none 0 0,.slice none 0 0]) ?_ 2 _ rfl;(with_reducible repeat(first|refine Xd ?_ _|refine Xf ?_|refine Xc ?_ _));refine Xp (cs:=#[.int .i64 ((Xa l0 0).f0),.slice none 0 0,.slice none 0 0,.slice none 0 0]) ?_ 1 _ rfl;(with_reducible repeat(first|refine Xd ?_ _|refine Xf ?_|refine Xc ?_ _));refine Xp (cs:=#[.int .i64 0,.slice none 0 0,.slice none 0 0,.slice none 0 0]) ?_ 0 _ rfl;(with_reducible repeat(first|refine Xd ?_ _|refine Xf ?_|refine Xc ?_ _));exact ae.out) hb);replace HB:=zq (Xb (zs2 I.out ag.out) hb);(try clear hb);have bX:=cz2 B.out));refine bodyPost_ret (Xa9 rfl _ _ D 35 #[.int .i64 aT,.int .i64 aZ] (0,0) _ rfl (by(with_reducible repeat(first|refine Xd ?_ _|refine Xf ?_|refine Xc ?_ _));refine Xp (cs:=#[.int .i64 aT,.int .i64 0]) ?_ 1 _ rfl;(with_reducible repeat(first|refine Xd ?_ _|refine Xf ?_|refine Xc ?_ _));refine Xp (cs:=#[.int .i64 0,.int .i64 0]) ?_ 0 _ rfl;(with_reducible repeat(first|refine Xd ?_ _|refine Xf ?_|refine Xc ?_ _));exact B.out) Tryz.underlying35 rfl J30) rfl ?_;exact⟨J1,J71⟩
  ·exact absurd H J92
 refine yE H ?_ ?_<;>clear H<;>rintro⟨bu,bv,bw⟩ H
 ·obtain⟨rfl,rfl,rfl⟩:=yp3 H;go_enter Tryz.func18,Tryz.ntmps18;go_wp2_with(first|((with_reducible refine Xk (N:=2) rfl ?_);refine bxw 2 35 #[.int .i64 0,.int .i64 0] ?_;intro D hg bY hbox hb;have B:=zq (hbox);have I:=zq ((J20:w.heap.size≤D));replace HB:=zq (Xb J0 hb);clear hb hbox hg;obtain⟨aE,U,aa,ak,ab,ah,af,an,ao,ap,aq,ar,au,av,ai,aw,aj,ax,aO,aP,aF⟩:=Xfd aQ.out HB.out;cases an)|((with_reducible refine Xk (N:=4) rfl ?_);refine bxw 4 32 #[.int .i64 0,.slice none 0 0,.slice none 0 0,.slice none 0 0] ?_;intro z hg bZ hbox hb;have ae:=zq (hbox);have ag:=zq ((J117:w.heap.size≤z));replace HB:=zq (Xb (zs1 I.out) hb);have s:=zq ((J110:D≠z));have O:=zq ((J111:z≠D));replace B:=zq (Xg (zk B.out) hb);clear hb hbox hg;have bx:=O.out;have bz:=s.out;have b5:=cz4 ae.out;have b6:=cz2 B.out));refine bodyPost_ret (Xa9 rfl _ _ D 35 #[.int .i64 0,.int .i64 0] (0,0) _ rfl J55 Tryz.underlying35 rfl J30) rfl ?_;exact⟨J1,J71⟩
 clear bw;refine yi H ?_;clear H;intro bd H;have bA:=decide_eq_true bd;have bB:decide (0<((Xa l0 0).f2).length)=true:=decide_eq_true J28;clear bd;refine yv H ?_;clear H;rintro⟨aW,a5⟩ bC H;dsimp only at H;obtain⟨rfl,rfl,rfl⟩:=yp3 H;go_enter Tryz.func18,Tryz.ntmps18;go_wp2_with(first|((with_reducible refine Xk (N:=2) rfl ?_);refine bxw 2 35 #[.int .i64 0,.int .i64 0] ?_;intro D hg b7 hbox hb;have B:=zq (hbox);have I:=zq ((J20:w.heap.size≤D));replace HB:=zq (Xb J0 hb);clear hb hbox hg;obtain⟨aE,U,aa,ak,ab,ah,af,an,ao,ap,aq,ar,au,av,ai,aw,aj,ax,aO,aP,aF⟩:=Xfd aQ.out HB.out;cases an)|((with_reducible refine Xk (N:=4) rfl ?_);refine bxw 4 32 #[.int .i64 0,.slice none 0 0,.slice none 0 0,.slice none 0 0] ?_;intro z hg b8 hbox hb;have ae:=zq (hbox);have ac:=zq ((J117:w.heap.size≤z));have ag:=zq ((J117:w.heap.size≤z));replace HB:=zq (Xb (zs1 I.out) hb);have s:=zq ((J110:D≠z));have O:=zq ((J111:z≠D));replace B:=zq (Xg (zk B.out) hb);clear hb hbox hg;have bD:=O.out;have bE:=s.out;have b9:=cz4 ae.out;have aX:0≤(0:Int):=J28;have aY:0<(((Xa l0 0).f2).length:Int):=of_decide_eq_true J2;obtain⟨am,be,K⟩:=Kd.at_int ai.out 0 aX aY;cases be;have bF:(0<((Xa l0 0).f2).length)=True:=eq_true J28;(try rw[show((0:Int)).toNat=0 from rfl]at K);(try rw[Addr.add_zero']at K);have aK:am.block≠z:=Nat.ne_of_lt (Nat.lt_of_lt_of_le J140 ac.out);have aL:am.block≠z:=Nat.ne_of_lt (Nat.lt_of_lt_of_le J140 ac.out);have aM:am.block≠z:=Nat.ne_of_lt (Nat.lt_of_lt_of_le J140 ac.out);have aN:am.block≠z:=Nat.ne_of_lt (Nat.lt_of_lt_of_le J140 ac.out);replace K:=yh HB K;replace K:=(Xm (p:=⟨z,0,none⟩) (zb aK) (.int .i64 ((Xa l0 0).f0))).trans K;replace K:=(Xm (p:=⟨z,1,none⟩) (zb aL) (.slice U ((Xa l0 0).f1).length aa)).trans K;replace K:=(Xm (p:=⟨z,2,none⟩) (zb aM) (.slice (some am) ((Xa l0 0).f2).length ab)).trans K;replace K:=(Xm (p:=⟨z,3,none⟩) (zb aN) (.slice ah ((Xa l0 0).f3).length af)).trans K;clear aK;clear aL;clear aM;clear aN;replace aX:=eq_true aX;replace aY:=eq_true aY)|((with_reducible refine Xh (f:=14) rfl ?_);refine gL Tryz.func14 (Xba.calls k (rd ((Xa l0 0).f2) 0) aW a5 _ bC.out) ?_;rintro e ca ⟨rfl,hb⟩;refine⟨_,rfl,?_⟩;replace B:=zq (Xg (g:=D) (o:=.cells #[.int .i64 0,.int .i64 0] 35 (0,0)) J84 hb);replace ae:=zq (Xg (g:=z) (o:=.cells #[.int .i64 ((Xa l0 0).f0),.slice U ((Xa l0 0).f1).length aa,.slice (some am) ((Xa l0 0).f2).length ab,.slice ah ((Xa l0 0).f3).length af] 32 (0,0)) (by(with_reducible repeat(first|refine Xd ?_ _|refine Xf ?_|refine Xc ?_ _));refine Xp (cs:=#[.int .i64 ((Xa l0 0).f0),.slice U ((Xa l0 0).f1).length aa,.slice (some am) ((Xa l0 0).f2).length ab,.slice none 0 0]) ?_ 3 _ rfl;(with_reducible repeat(first|refine Xd ?_ _|refine Xf ?_|refine Xc ?_ _));refine Xp (cs:=#[.int .i64 ((Xa l0 0).f0),.slice U ((Xa l0 0).f1).length aa,.slice none 0 0,.slice none 0 0]) ?_ 2 _ rfl;(with_reducible repeat(first|refine Xd ?_ _|refine Xf ?_|refine Xc ?_ _));refine Xp (cs:=#[.int .i64 ((Xa l0 0).f0),.slice none 0 0,.slice none 0 0,.slice none 0 0]) ?_ 1 _ rfl;(with_reducible repeat(first|refine Xd ?_ _|refine Xf ?_|refine Xc ?_ _));refine Xp (cs:=#[.int .i64 0,.slice none 0 0,.slice none 0 0,.slice none 0 0]) ?_ 0 _ rfl;(with_reducible repeat(first|refine Xd ?_ _|refine Xf ?_|refine Xc ?_ _));exact ae.out) hb);replace HB:=zq (Xb (zs2 I.out ag.out) hb);(try clear hb);have cb:=cz2 B.out));refine bodyPost_ret (Xa9 rfl _ _ D 35 #[.int .i64 aW,.int .i64 a5] (0,0) _ rfl (by(with_reducible repeat(first|refine Xd ?_ _|refine Xf ?_|refine Xc ?_ _));refine Xp (cs:=#[.int .i64 aW,.int .i64 0]) ?_ 1 _ rfl;(with_reducible repeat(first|refine Xd ?_ _|refine Xf ?_|refine Xc ?_ _));refine Xp (cs:=#[.int .i64 0,.int .i64 0]) ?_ 0 _ rfl;(with_reducible repeat(first|refine Xd ?_ _|refine Xf ?_|refine Xc ?_ _));exact B.out) Tryz.underlying35 rfl J30) rfl ?_;exact⟨J1,J71⟩
def Xbs.f(a0:Int):Option (Bool):=some (a0 != a0)
set_option maxHeartbeats 8000000 in
set_option maxRecDepth 100000 in
theorem Xbs.calls(a0:Int)(r:Bool)(w:World)(h:Xbs.f a0=some r):
  Calls Tryz.prog 57 #[.int .i64 a0] w fun e w'=>e= .returned (.bool r)∧Drawn0 w w':=by
 have H:(some (a0 != a0))=some r:=h;clear h;obtain rfl:=yo H;go_enter Tryz.func57,Tryz.ntmps57;go_wp2;go_ret;exact⟨J3,J7⟩
def Xal.f(a0:Int)(a1:Int):Option (Int):=(Xbs.f a0).bind fun z=>((Xbs.f a1).bind fun s=>(if z=true then(if s=true then(some 0)else(some (-1)))else(if s=true then(some 1)else(if a0<a1 then(some (-1))else(if a0>a1 then(some 1)else(some 0))))))
set_option maxHeartbeats 8000000 in
set_option maxRecDepth 100000 in
theorem Xal.calls(a0:Int)(a1:Int)(r:Int)(w:World)(h:Xal.f a0 a1=some r):
  Calls Tryz.prog 38 #[.int .i64 a0,.int .i64 a1] w fun e w'=>e= .returned (.int .i64 r)∧Drawn0 w w':=by
 unfold Xal.f at h;have H:=h;clear h;refine yv H ?_;clear H;rintro s A3 H;refine yv H ?_;clear H;rintro z A4 H;refine yC H ?_ ?_<;>clear H<;>rintro rfl H
 ·refine yC H ?_ ?_<;>clear H<;>rintro rfl H
  ·obtain rfl:=yo H;go_enter Tryz.func38,Tryz.ntmps38;go_wp2_with(first|((with_reducible refine Xh (f:=57) rfl ?_);refine gL Tryz.func57 (Xbs.calls a0 true _ A3.out) ?_;rintro e w' ⟨rfl,⟨nd,rfl⟩⟩;refine⟨_,rfl,?_⟩)|((with_reducible refine Xh (f:=57) rfl ?_);refine gL Tryz.func57 (Xbs.calls a1 true _ A4.out) ?_;rintro e w' ⟨rfl,⟨nd,rfl⟩⟩;refine⟨_,rfl,?_⟩));go_ret;exact⟨J3,J7⟩
  ·obtain rfl:=yo H;go_enter Tryz.func38,Tryz.ntmps38;go_wp2_with(first|((with_reducible refine Xh (f:=57) rfl ?_);refine gL Tryz.func57 (Xbs.calls a0 true _ A3.out) ?_;rintro e w' ⟨rfl,⟨nd,rfl⟩⟩;refine⟨_,rfl,?_⟩)|((with_reducible refine Xh (f:=57) rfl ?_);refine gL Tryz.func57 (Xbs.calls a1 false _ A4.out) ?_;rintro e w' ⟨rfl,⟨nd,rfl⟩⟩;refine⟨_,rfl,?_⟩));go_ret;exact⟨J3,J7⟩
 refine yC H ?_ ?_<;>clear H<;>rintro rfl H
 ·obtain rfl:=yo H;go_enter Tryz.func38,Tryz.ntmps38;go_wp2_with(first|((with_reducible refine Xh (f:=57) rfl ?_);refine gL Tryz.func57 (Xbs.calls a0 false _ A3.out) ?_;rintro e w' ⟨rfl,⟨nd,rfl⟩⟩;refine⟨_,rfl,?_⟩)|((with_reducible refine Xh (f:=57) rfl ?_);refine gL Tryz.func57 (Xbs.calls a1 true _ A4.out) ?_;rintro e w' ⟨rfl,⟨nd,rfl⟩⟩;refine⟨_,rfl,?_⟩));go_ret;exact⟨J3,J7⟩
 refine yD H ?_ ?_<;>clear H<;>rintro B H
 ·obtain rfl:=yo H;go_enter Tryz.func38,Tryz.ntmps38;go_wp2_with(first|((with_reducible refine Xh (f:=57) rfl ?_);refine gL Tryz.func57 (Xbs.calls a0 false _ A3.out) ?_;rintro e w' ⟨rfl,⟨nd,rfl⟩⟩;refine⟨_,rfl,?_⟩)|((with_reducible refine Xh (f:=57) rfl ?_);refine gL Tryz.func57 (Xbs.calls a1 false _ A4.out) ?_;rintro e w' ⟨rfl,⟨nd,rfl⟩⟩;refine⟨_,rfl,?_⟩));go_ret;exact⟨J3,J7⟩
 refine yd H ?_ ?_<;>clear H<;>rintro D H
 ·obtain rfl:=yo H;go_enter Tryz.func38,Tryz.ntmps38;go_wp2_with(first|((with_reducible refine Xh (f:=57) rfl ?_);refine gL Tryz.func57 (Xbs.calls a0 false _ A3.out) ?_;rintro e w' ⟨rfl,⟨nd,rfl⟩⟩;refine⟨_,rfl,?_⟩)|((with_reducible refine Xh (f:=57) rfl ?_);refine gL Tryz.func57 (Xbs.calls a1 false _ A4.out) ?_;rintro e w' ⟨rfl,⟨nd,rfl⟩⟩;refine⟨_,rfl,?_⟩));go_ret;exact⟨J3,J7⟩
 obtain rfl:=yo H;go_enter Tryz.func38,Tryz.ntmps38;go_wp2_with(first|((with_reducible refine Xh (f:=57) rfl ?_);refine gL Tryz.func57 (Xbs.calls a0 false _ A3.out) ?_;rintro e w' ⟨rfl,⟨nd,rfl⟩⟩;refine⟨_,rfl,?_⟩)|((with_reducible refine Xh (f:=57) rfl ?_);refine gL Tryz.func57 (Xbs.calls a1 false _ A4.out) ?_;rintro e w' ⟨rfl,⟨nd,rfl⟩⟩;refine⟨_,rfl,?_⟩));go_ret;exact⟨J3,J7⟩
def Xcb.f(a0:ByteArray)(a1:ByteArray):Option (Bool):=if(a0.size:Int)≥(a1.size:Int)then(if 0≤(a1.size:Int)then(if(a1.size:Int)≤(a0.size:Int)then(some ((a0.extract 0 ((a1.size:Int):Int).toNat).toList==a1.toList))else(none))else(none))else(some false)
set_option maxHeartbeats 8000000 in
set_option maxRecDepth 100000 in
theorem Xcb.calls(a0:ByteArray)(a1:ByteArray)(r:Bool)(w:World)(h:Xcb.f a0 a1=some r):
  Calls Tryz.prog 91 #[.string a0,.string a1] w fun e w'=>e= .returned (.bool r)∧Drawn0 w w':=by
 unfold Xcb.f at h;have H:=h;clear h;refine yt H ?_ ?_<;>clear H<;>rintro c3 H
 ·have s:decide ((a1.size:Int)≤(a0.size:Int))=false:=decide_eq_false c3;have z:decide (a1.size≤a0.size)=false:=decide_eq_false (fun h=>c3 (Int.ofNat_le.mpr h));clear c3;obtain rfl:=yo H;go_enter Tryz.func91,Tryz.ntmps91;go_wp2;go_ret;exact⟨J3,J7⟩
 have s:=decide_eq_true c3;have z:decide (a1.size≤a0.size)=true:=decide_eq_true (Int.ofNat_le.mp c3);clear c3;refine yi H ?_;clear H;intro c4 H;have B:=eq_true c4;have D:=decide_eq_true c4;clear c4;refine yi H ?_;clear H;intro c5 H;have G:=eq_true c5;have I:=decide_eq_true c5;clear c5;obtain rfl:=yo H;go_enter Tryz.func91,Tryz.ntmps91;go_wp2;go_ret;exact⟨J3,J7⟩
def Xcf.f(a0:ByteArray)(a1:ByteArray):Option (ByteArray):=(Xcb.f a0 a1).bind fun s=>(if s=true then(if 0≤(a1.size:Int)then(if(a1.size:Int)≤(a0.size:Int)then(some (a0.extract ((a1.size:Int):Int).toNat a0.size))else(none))else(none))else(some a0))
set_option maxHeartbeats 8000000 in
set_option maxRecDepth 100000 in
theorem Xcf.calls(a0:ByteArray)(a1:ByteArray)(r:ByteArray)(w:World)(h:Xcf.f a0 a1=some r):
  Calls Tryz.prog 86 #[.string a0,.string a1] w fun e w'=>e= .returned (.string r)∧Drawn0 w w':=by
 unfold Xcf.f at h;have H:=h;clear h;refine yv H ?_;clear H;rintro s A3 H;refine yB H ?_ ?_<;>clear H<;>rintro rfl H
 ·obtain rfl:=yo H;go_enter Tryz.func86,Tryz.ntmps86;go_wp2_with(first|((with_reducible refine Xh (f:=91) rfl ?_);refine gL Tryz.func91 (Xcb.calls a0 a1 false _ A3.out) ?_;rintro e w' ⟨rfl,⟨nd,rfl⟩⟩;refine⟨_,rfl,?_⟩));go_ret;exact⟨J3,J7⟩
 refine yi H ?_;clear H;intro c5 H;have z:=eq_true c5;have B:=decide_eq_true c5;clear c5;refine yi H ?_;clear H;intro c6 H;have D:=eq_true c6;have G:=decide_eq_true c6;clear c6;obtain rfl:=yo H;go_enter Tryz.func86,Tryz.ntmps86;go_wp2_with(first|((with_reducible refine Xh (f:=91) rfl ?_);refine gL Tryz.func91 (Xcb.calls a0 a1 true _ A3.out) ?_;rintro e w' ⟨rfl,⟨nd,rfl⟩⟩;refine⟨_,rfl,?_⟩));go_ret;exact⟨J3,J7⟩
def Xcn.f(a0:ByteArray)(a1:ByteArray):Option (ByteArray):=(Xcf.f a0 a1).bind fun s=>(some s)
set_option maxHeartbeats 8000000 in
set_option maxRecDepth 100000 in
theorem Xcn.calls(a0:ByteArray)(a1:ByteArray)(r:ByteArray)(w:World)(h:Xcn.f a0 a1=some r):
  Calls Tryz.prog 76 #[.string a0,.string a1] w fun e w'=>e= .returned (.string r)∧Drawn0 w w':=by
 unfold Xcn.f at h;have H:=h;clear h;refine yv H ?_;clear H;rintro s A3 H;obtain rfl:=yo H;go_enter Tryz.func76,Tryz.ntmps76;go_wp2_with(first|((with_reducible refine Xh (f:=86) rfl ?_);refine gL Tryz.func86 (Xcf.calls a0 a1 s _ A3.out) ?_;rintro e w' ⟨rfl,⟨nd,rfl⟩⟩;refine⟨_,rfl,?_⟩));go_ret;exact⟨J3,J7⟩
def laysM171_ren:Go.Shelf.Ren:=⟨fun|171=>77|243=>87|246=>92|283=>97|284=>98|285=>99|286=>100|129=>103|317=>102|318=>104|319=>105|320=>106|337=>107|338=>108|n=>n,fun|3=>3|9=>9|2=>2|4=>4|171=>94|0=>0|53=>82|37=>88|5=>5|173=>97|212=>102|51=>103|20=>20|213=>104|46=>105|232=>108|233=>109|n=>n,fun|17=>1|18=>2|19=>3|n=>n⟩
theorem laysM171:Go.Proofs.LaysM.n171 Tryz.prog laysM171_ren:={
 mixed:=J30
 f129:=Tryz.func103.trans (congrArg some J30)
 f171:=Tryz.func77.trans (congrArg some J30)
 f243:=Tryz.func87.trans (congrArg some J30)
 f246:=Tryz.func92.trans (congrArg some J30)
 f283:=Tryz.func97.trans (congrArg some J30)
 f284:=Tryz.func98.trans (congrArg some J30)
 f285:=Tryz.func99.trans (congrArg some J30)
 f286:=Tryz.func100.trans (congrArg some J30)
 f317:=Tryz.func102.trans (congrArg some J30)
 f318:=Tryz.func104.trans (congrArg some J30)
 f319:=Tryz.func105.trans (congrArg some J30)
 f320:=Tryz.func106.trans (congrArg some J30)
 f337:=Tryz.func107.trans (congrArg some J30)
 f338:=Tryz.func108.trans (congrArg some J30)
 t0:=Tryz.underlying0
 a0:=Tryz.isAgg0
 z0:=Tryz.sizeOf0
 v0:=Tryz.zeroValue0
 t2:=Tryz.underlying2
 a2:=Tryz.isAgg2
 z2:=Tryz.sizeOf2
 v2:=Tryz.zeroValue2
 t3:=Tryz.underlying3
 a3:=Tryz.isAgg3
 z3:=Tryz.sizeOf3
 v3:=Tryz.zeroValue3
 t4:=Tryz.underlying4
 a4:=Tryz.isAgg4
 z4:=Tryz.sizeOf4
 v4:=Tryz.zeroValue4
 t5:=Tryz.underlying5
 a5:=Tryz.isAgg5
 z5:=Tryz.sizeOf5
 v5:=Tryz.zeroValue5
 t9:=Tryz.underlying9
 a9:=Tryz.isAgg9
 z9:=Tryz.sizeOf9
 v9:=Tryz.zeroValue9
 t20:=Tryz.underlying20
 a20:=Tryz.isAgg20
 z20:=Tryz.sizeOf20
 v20:=Tryz.zeroValue20
 t37:=Tryz.underlying88
 a37:=Tryz.isAgg88
 z37:=Tryz.sizeOf88
 v37:=Tryz.zeroValue88
 t46:=Tryz.underlying105
 a46:=Tryz.isAgg105
 z46:=Tryz.sizeOf105
 v46:=Tryz.zeroValue105
 t51:=Tryz.underlying103
 a51:=Tryz.isAgg103
 z51:=Tryz.sizeOf103
 v51:=Tryz.zeroValue103
 t53:=Tryz.underlying82
 a53:=Tryz.isAgg82
 z53:=Tryz.sizeOf82
 v53:=Tryz.zeroValue82
 t171:=Tryz.underlying94
 a171:=Tryz.isAgg94
 z171:=Tryz.sizeOf94
 v171:=Tryz.zeroValue94
 t173:=Tryz.underlying97
 a173:=Tryz.isAgg97
 z173:=Tryz.sizeOf97
 v173:=Tryz.zeroValue97
 t212:=Tryz.underlying102
 a212:=Tryz.isAgg102
 z212:=Tryz.sizeOf102
 v212:=Tryz.zeroValue102
 t213:=Tryz.underlying104
 a213:=Tryz.isAgg104
 z213:=Tryz.sizeOf104
 t232:=Tryz.underlying108
 a232:=Tryz.isAgg108
 z232:=Tryz.sizeOf108
 v232:=Tryz.zeroValue108
 t233:=Tryz.underlying109
 a233:=Tryz.isAgg109
 z233:=Tryz.sizeOf109
 v233:=Tryz.zeroValue109
 g17:=J30
 g18:=J30
 g19:=J30
 i0:=J30
 i2:=J30
 i3:=J30
 i4:=J30
 i5:=J30
 i9:=J30
 i20:=J30
 i37:=J30
 i46:=J30
 i51:=J30
 i53:=J30
 i171:=J30
 i173:=J30
 i212:=J30
 i232:=J30
 i233:=J30
 m17:=J30
 m18:=J30
 m19:=by kernel_rfl}
def HTab(w:World):Prop:=Go.Lib.TabIs Tryz.prog w (Rows.systemTellsRow.laid[2]'J18).1 .u64 Go.Lib.pow10Tab
theorem Xb5{w w1:World}(h:HTab w)(hb:Below w.heap.size w w1):HTab w1:=by
 obtain⟨gq,hgn⟩:∃gq,Tryz.prog.globalNamed (Rows.systemTellsRow.laid[2]'J18).1=some gq:=⟨1,J30⟩;unfold HTab Go.Lib.TabIs World.var? at h⊢;rw[hgn]at h⊢;simp only[Option.bind_some]at h⊢;have hlt:gq<w.heap.size:=by
  rcases Nat.lt_or_ge gq w.heap.size with h'|h'
  ·exact h'
  ·rw[Array.getElem?_eq_none h']at h;cases h
 rw[hb.block gq hlt];exact h
def Xcr.f(a0:Int):Option (ByteArray):=if -9223372036854775808≤a0∧a0≤9223372036854775807 then some ⟨(Go.Lib.itoa a0).toArray⟩else none
theorem Xcr.calls(a0:Int)(r:ByteArray)(w:World)(s:HTab w)(h:Xcr.f a0=some r):
  Calls Tryz.prog 77 #[.int .i64 a0] w fun e w'=>e= .returned (.string r)∧Below w.heap.size w w':=by
 unfold Xcr.f at h;by_cases g: -9223372036854775808≤a0∧a0≤9223372036854775807
 ·rw[if_pos g]at h;obtain rfl:=Option.some.inj h;refine(Go.Proofs.Any.strconv_Itoa laysM171 a0 g.1 g.2 w s).mono ?_;rintro e w' ⟨rfl,k,os,rfl⟩;exact⟨rfl,Go.Lib.below_grow _ _ (Nat.le_refl _) _ _⟩
 ·rw[if_neg g]at h;exact absurd h J92
def Xck.f(a0:Int):Option (ByteArray):=(Xcr.f a0).bind fun s=>((Xcn.f s (⟨#[45]⟩:ByteArray)).bind fun z=>(some z))
set_option maxHeartbeats 8000000 in
set_option maxRecDepth 100000 in
theorem Xck.calls(a0:Int)(r:ByteArray)(w:World)(z:HTab w)(h:Xck.f a0=some r):
  Calls Tryz.prog 58 #[.int .i64 a0] w fun e w'=>e= .returned (.string r)∧Below w.heap.size w w':=by
 have HT:=zq z;clear z;have HB:=zq (Below.refl w.heap.size w);unfold Xck.f at h;have H:=h;clear h;refine yv H ?_;clear H;rintro s A2 H;refine yv H ?_;clear H;rintro B A3 H;obtain rfl:=yo H;go_enter Tryz.func58,Tryz.ntmps58;go_wp2_with(first|((with_reducible refine Xh (f:=77) rfl ?_);refine gL Tryz.func77 (Xcr.calls a0 s _ (Xb5 HT.out J0) A2.out) ?_;rintro e w4 ⟨rfl,hb⟩;refine⟨_,rfl,?_⟩;replace HB:=zq (Xb J0 hb);(try clear hb))|((with_reducible refine Xh (f:=76) rfl ?_);refine gL Tryz.func76 (Xcn.calls s (⟨#[45]⟩:ByteArray) B _ A3.out) ?_;rintro e w' ⟨rfl,⟨nd,rfl⟩⟩;refine⟨_,rfl,?_⟩));go_ret;exact⟨J1,J0⟩
def Xbe.l0:Nat→Int→List Int→Int→Int→Option (Int)
 |0,_,_,_,_=>none
 |k+1,x3,x6,x7,x8=>if x8<x7 then(if 0≤x8 then(if x8<(x6.length:Int)then(if(rd x6 x8)=x3 then(Xbe.l0 k x3 x6 x7 (wrap64 (x8+1)))else(some (rd x6 x8)))else(none))else(none))else(some x3)
def Xbe.f(k:Nat)(l0:List Int):Option (Int):=Xbe.l0 k 0 l0 (l0.length:Int) 0
theorem Xbe.mono_l:∀k,(∀y0 y1 y2 y3,LeO (Xbe.l0 k y0 y1 y2 y3) (Xbe.l0 (k+1) y0 y1 y2 y3))
 |0=>fun _ _ _ _ r h=>by simp[Xbe.l0]at h
 |k+1=>by
  have ih0:=Xbe.mono_l k
  ·intro y0 y1 y2 y3;unfold Xbe.l0;exact mz0
theorem Xbe.mono:∀a0 k,LeO (Xbe.f k a0) (Xbe.f (k+1) a0):=by intro a0 k;have ih0:=Xbe.mono_l k;unfold Xbe.f;exact mz0
set_option maxHeartbeats 8000000 in
set_option maxRecDepth 100000 in
theorem Xbe.calls(k:Nat)(A0:Option Addr)(c0:Nat)(l0:List Int)(r:Int)(w:World)(J:Kd.C (Kd.int .i64) w A0 l0.length l0)(K:l0.length≤c0)(h:Xbe.f k l0=some r):
  Calls Tryz.prog 59 #[.slice A0 l0.length c0] w fun e w'=>e= .returned (.int .i64 r)∧Drawn0 w w':=by
 have L:=zq J;have af:=zq K;clear J K;unfold Xbe.f at h;have H:=h;clear h;have H':=zq H;clear H;go_enter Tryz.func59,Tryz.ntmps59;go_wp2
 go_loopg [8] k (fun kq v8 w'=>∃(s:Int),v8= .int .i64 s∧Aside0 (Xbe.l0 kq 0 l0 (l0.length:Int) s=some r)∧Aside0 (kq≤k)∧Drawn0 w w')
 case atStart=>exact⟨(0),J3,H',⟨Nat.le_refl _⟩,J7⟩
 case round=>
  clear H';obtain⟨s,rfl,HA,O,⟨m1,rfl⟩⟩:=hrel;cases gk with
  |zero=>exact absurd HA.out (by simp[Xbe.l0])
  |succ k1=>
   have H:=HA.out;clear HA;simp only[Xbe.l0]at H;refine yd H ?_ ?_<;>clear H<;>rintro U H
   ·obtain rfl:=yo H;go_wp2;go_ret;exact⟨J3,J7⟩
   refine yj H ?_;clear H;intro aa H;refine yj H ?_;clear H;intro ab H;refine yE H ?_ ?_<;>clear H<;>rintro⟨ac,ae,c5⟩ H
   ·obtain rfl:=yo H;have z:0≤(s:Int):=of_decide_eq_true J2;have B:s<(l0.length:Int):=of_decide_eq_true J2;obtain⟨I,D,G⟩:=Kd.at_int L.out s z B;cases D;replace z:=eq_true z;replace B:=eq_true B;go_wp2;go_ret;exact⟨J3,J7⟩
   clear c5;have H':=zq H;clear H;have z:0≤(s:Int):=of_decide_eq_true J2;have B:s<(l0.length:Int):=of_decide_eq_true J2;obtain⟨I,D,G⟩:=Kd.at_int L.out s z B;cases D;replace z:=eq_true z;replace B:=eq_true B;go_wp2
   go_roundg k1
   case measure=>have:=O.out;omega
   case rel=>exact⟨(wrap64 (s+1)),J3,H',⟨by have:=O.out;omega⟩,J7⟩
def Xcm.f(a0:ByteArray)(a1:ByteArray):Option (Int):=some (Lib.compareBytes a0.data.toList a1.data.toList)
set_option maxHeartbeats 1000000 in
set_option maxRecDepth 100000 in
theorem Xcm.calls(a0:ByteArray)(a1:ByteArray)(r:Int)(w:World)(h:Xcm.f a0 a1=some r):
  Calls Tryz.prog 78 #[.string a0,.string a1] w fun e w'=>e= .returned (.int .i64 r)∧Drawn0 w w':=by
 obtain rfl:=Option.some.inj h;refine Calls.mono (R:=fun e w'=>e= .returned (.int .i64 (Lib.compareBytes a0.data.toList a1.data.toList))∧w'=w) ?_ (fun e w' hh=>⟨hh.1,by rw[hh.2];exact Drawn0.refl w⟩);go_enter Tryz.func78,Tryz.ntmps78;go_wp2;rw[run_callFunc_extern Tryz.func88 J30 J30 J30 (e:=Extern.BytealgCompare.compare) J30,Lib.run_compareString];simp only[Result.andThen];rw[Oper.upon_value];go_wp2;go_ret;exact⟨rfl,rfl⟩
def Xcq.f(a0:ByteArray)(a1:ByteArray):Option (Int):=(Xcm.f a0 a1).bind fun s=>(some s)
set_option maxHeartbeats 8000000 in
set_option maxRecDepth 100000 in
theorem Xcq.calls(a0:ByteArray)(a1:ByteArray)(r:Int)(w:World)(h:Xcq.f a0 a1=some r):
  Calls Tryz.prog 60 #[.string a0,.string a1] w fun e w'=>e= .returned (.int .i64 r)∧Drawn0 w w':=by
 unfold Xcq.f at h;have H:=h;clear h;refine yv H ?_;clear H;rintro s A3 H;obtain rfl:=yo H;go_enter Tryz.func60,Tryz.ntmps60;go_wp2_with(first|((with_reducible refine Xh (f:=78) rfl ?_);refine gL Tryz.func78 (Xcm.calls a0 a1 s _ A3.out) ?_;rintro e w' ⟨rfl,⟨nd,rfl⟩⟩;refine⟨_,rfl,?_⟩));go_ret;exact⟨J3,J7⟩
def decimal_above.f(k:Nat)(B:Int)(D:Int)(G:Int)(H:Int):Option (Int):=(Xck.f B).bind fun s=>((Xck.f G).bind fun z=>((Xal.f (wrap64 ((s.size:Int)+D)) (wrap64 ((z.size:Int)+H))).bind fun I=>((Xcq.f s z).bind fun J=>((Xbe.f k (([I,J]:List Int))).bind fun K=>(some K)))))
theorem decimal_above.mono:∀a0 a1 a2 a3 k,LeO (decimal_above.f k a0 a1 a2 a3) (decimal_above.f (k+1) a0 a1 a2 a3):=by intro a0 a1 a2 a3 k;unfold decimal_above.f;have im0:=@Xbe.mono;exact mz3
def decimal_above.T1:Bool×List (List Nat×List Nat):=(true,[([],[]),([0],[0]),([1],[1]),([],[]),([3],[3]),([4,2],[4]),([2,5,0,1,2],[2]),([5,6,0,1,2,3,4,5,6],[5])])
def decimal_above.B1:List Nat:=[0,1,3,0,8,31,63,127]
theorem decimal_above.tab1:Xde .any (opsOf Tryz.f39 1)=decimal_above.T1:=J30
theorem decimal_above.bits1:Xdc decimal_above.T1.2 decimal_above.B1=true:=J30
set_option maxHeartbeats 8000000 in
set_option maxRecDepth 100000 in
theorem decimal_above.calls(k:Nat)(G:Int)(I:Int)(L:Int)(ac:Int)(r:Int)(w:World)(am:HTab w)(h:decimal_above.f k G I L ac=some r):
  Calls Tryz.prog 39 #[.agg #[.int .i64 G,.int .i64 I],.agg #[.int .i64 L,.int .i64 ac]] w fun e w'=>e= .returned (.int .i64 r)∧Below w.heap.size w w':=by
 have HT:=zq am;clear am;have av:=Tryz.underlying35;have HB:=zq (Below.refl w.heap.size w);unfold decimal_above.f at h;have H:=h;clear h;refine yv H ?_;clear H;rintro ai A3 H;refine yv H ?_;clear H;rintro aj A4 H;refine yv H ?_;clear H;rintro O A5 H;refine yv H ?_;clear H;rintro U A6 H;obtain⟨an,ae⟩:∃y_:List Int,y_=(([O,U]:List Int)):=⟨_,rfl⟩;rw(occs:=.pos [1]) [←ae]at H;have al:=zq ae;clear ae;refine yv H ?_;clear H;rintro ao A7 H;obtain rfl:=yo H;go_enter Tryz.func39,Tryz.ntmps39;try go_wp2_with(first|((with_reducible refine Xk (N:=2) rfl ?_);refine bxw 2 35 #[.int .i64 G,.int .i64 I] ?_;intro D hg w8 hbox hb;have s:=zq (hbox);have B:=zq ((J20:w.heap.size≤D));replace HB:=zq (Xb J0 hb);clear hb hbox hg)|((with_reducible refine Xk (N:=3) rfl ?_);refine bxw 3 35 #[.int .i64 L,.int .i64 ac] ?_;intro aa hg w9 hbox hb;have z:=zq (hbox);have J:=zq ((J54:w.heap.size≤aa));replace HB:=zq (Xb (zs1 B.out) hb);have af:=zq ((by rw[hg];exact Nat.ne_of_lt (Xbj (g:=D) (o:=.cells #[.int .i64 G,.int .i64 I] 35 (0,0)) (zk s.out)):D≠aa));have ag:=zq ((by rw[hg];exact Nat.ne_of_gt (Xbj (g:=D) (o:=.cells #[.int .i64 G,.int .i64 I] 35 (0,0)) (zk s.out)):aa≠D));replace s:=zq (Xg (zk s.out) hb);clear hb hbox hg))
 replace s:=zq (Xf s.out);replace z:=zq (Xf z.out);replace HB:=zq (Xan HB.out);refine Xej (n:=8) (S:=fun w'=>hdB2B2 w' D (.int .i64 G) (.int .i64 I) aa (.int .i64 L) (.int .i64 ac)) (ds:=[]) #[Z,Z,Z,Z,Z,Z,Z,Z] J30 rfl rfl ⟨(Xac s.out 0).trans rfl,(Xac s.out 1).trans rfl,(Xac z.out 0).trans rfl,(Xac z.out 1).trans rfl⟩ (fun hHeld=>?_);refine Xc8 decimal_above.tab1 decimal_above.bits1 (fun ab ap=>?_);generalize w9.drew=aA at s z HB hHeld⊢;refine Xbf 0 7 #[Y,Z,Z,Z,Z,Z,Z,Z] ab ?_;refine Xbf 3 10 #[Y,Z,Z,Y,Z,Z,Z,Z] ab ?_;refine Xdx (i:=1) (N:=some 8) (v:=?_) (a':=?_) #[Y,Y,Z,Y,Z,Z,Z,Z] rfl rfl (Xcu ab.out ap.out J30) (fun _ _ _ h=>h) (Or.inl ⟨Xbm,?_⟩) hHeld ?_ ?_;rotate_left
 ·rintro w' ⟨s0,s1,s2,s3⟩;go_simp;with_reducible rfl
 rotate_left
 ·exact pz1
 refine Xdx (i:=4) (N:=some 11) (v:=?_) (a':=?_) #[Y,Y,Z,Y,Y,Z,Z,Z] rfl rfl (Xcu ab.out ap.out J30) (fun _ _ _ h=>h) (Or.inl ⟨Xbm,?_⟩) hHeld ?_ ?_;rotate_left
 ·rintro w' ⟨s0,s1,s2,s3⟩;go_simp;with_reducible rfl
 rotate_left
 ·exact pz1
 refine Xdf (i:=2) (N:=some 9) #[Y,Y,Y,Y,Y,Z,Z,Z] rfl rfl (Xci ab.out J30) J18 (fun K hK=>?_);refine Xdo Tryz.func58 J30 rfl #[.int .i64 G] Xbm rfl rfl J6 ?_;with_reducible refine(Xck.calls G ai _ (Xb5 HT.out J0) A3.out).mono ?_
 rintro e aB ⟨rfl,hb⟩;refine⟨_,rfl,?_⟩;replace s:=zq (Xg (zk s.out) hb);replace z:=zq (Xg (zk z.out) hb);replace HB:=zq (Xb (zs2 B.out J.out) hb);(try clear hb);(try clear hb2);(try clear hk);(try clear hi);refine hK.out _ _ ⟨(Xac s.out 0).trans rfl,(Xac s.out 1).trans rfl,(Xac z.out 0).trans rfl,(Xac z.out 1).trans rfl⟩ (fun hHeld=>?_);clear hK K;refine Xa0 (a':=?_) ?_ ?_;rotate_left
 ·show Act.put _ (some 9) _=_;simp only[Act.put,List.setIfInBounds_toArray,List.set_cons_zero,List.set_cons_succ,Xau,Xax];rfl
 refine Xdf (i:=5) (N:=some 12) #[Y,Y,Y,Y,Y,Y,Z,Z] rfl rfl (Xci ab.out J30) J18 (fun K hK=>?_);refine Xdo Tryz.func58 J30 rfl #[.int .i64 L] Xbm rfl rfl J6 ?_;with_reducible refine(Xck.calls L aj _ (Xb5 HT.out J0) A4.out).mono ?_
 rintro e aC ⟨rfl,hb⟩;refine⟨_,rfl,?_⟩;replace s:=zq (Xg (zk s.out) hb);replace z:=zq (Xg (zk z.out) hb);replace HB:=zq (Xb (zs2 B.out J.out) hb);(try clear hb);(try clear hb2);(try clear hk);(try clear hi);refine hK.out _ _ ⟨(Xac s.out 0).trans rfl,(Xac s.out 1).trans rfl,(Xac z.out 0).trans rfl,(Xac z.out 1).trans rfl⟩ (fun hHeld=>?_);clear hK K;refine Xa0 (a':=?_) ?_ ?_;rotate_left
 ·show Act.put _ (some 12) _=_;simp only[Act.put,List.setIfInBounds_toArray,List.set_cons_zero,List.set_cons_succ,Xau,Xax];rfl
 refine Xbf 6 5 #[Y,Y,Y,Y,Y,Y,Y,Z] ab ?_;refine Xbf 7 6 #[Y,Y,Y,Y,Y,Y,Y,Y] ab ?_;refine done_ (Xd0 ab.out J30) ?_;have ar:=af.out;have au:=ag.out;have aD:=cz2 s.out;have aE:=cz2 z.out;try go_wp2_with(first|((with_reducible refine Xh (f:=38) rfl ?_);refine gL Tryz.func38 (Xal.calls (wrap64 ((ai.size:Int)+I)) (wrap64 ((aj.size:Int)+ac)) O _ A5.out) ?_;rintro e w' ⟨rfl,⟨nd,rfl⟩⟩;refine⟨_,rfl,?_⟩)|((with_reducible refine Xh (f:=60) rfl ?_);refine gL Tryz.func60 (Xcq.calls ai aj U _ A6.out) ?_;rintro e w' ⟨rfl,⟨nd,rfl⟩⟩;refine⟨_,rfl,?_⟩)|((with_reducible refine Xk (N:=27) rfl ?_);refine lwR (Kd.int .i64) 3 27 (xs:=([O,U]:List Int)) [.int .i64 O,.int .i64 U] al (Reps.one (show Kd.M (Kd.int .i64) _ _ _ O [.int .i64 O]from rfl) (Reps.one (show Kd.M (Kd.int .i64) _ _ _ U [.int .i64 U]from rfl) (Reps.none _ _))) ?_;intro aw aF ak hb;have ah:=zq (ls ak (Xe (zs2 B.out J.out)));replace HB:=zq (Xb (zs2 B.out J.out) hb);clear hb ak;obtain⟨ax,ay,aq⟩:=lv ah.out;subst aq)|((with_reducible refine Xh (f:=59) rfl ?_);refine gL Tryz.func59 (Xbe.calls k _ _ an ao _ (zc ((lu ah.out).2.2)) ((lu ah.out).2.1) A7.out) ?_;rintro e w' ⟨rfl,⟨nd,rfl⟩⟩;refine⟨_,rfl,?_⟩))
 go_ret;exact⟨J1,by repeat(first|(with_reducible first|exact HB.out|apply Xar|apply Xag|apply Xan|refine X9 ?_ B.out|refine X9 ?_ J.out)|exact HB.out)⟩
end Go.Proofs.YtfjhiiaahbjaiaaGreatDoor.HSystemTells
