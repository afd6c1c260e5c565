/- Words and walks, shortened by a program: what this claim's functions answer, and that other memory stays. -/
import Derived.Test.YtfjhiiaahbjaiaaGreatDoorSSystemTellsx0
import Derived.Test.YtfjhiiaahbjaiaaGreatDoorSSystemTellsx9
namespace Go.Proofs.YtfjhiiaahbjaiaaGreatDoor.HSystemTells
open Go.RowKit Go.Proofs.YtfjhiiaahbjaiaaGreatDoorW.PrintWords Go.Proofs.YtfjhiiaahbjaiaaGreatDoorW.PrintWords.Kd Go.Proofs.YtfjhiiaahbjaiaaGreatDoorW.PrintLast Go.Proofs.YtfjhiiaahbjaiaaGreatDoorW.PrintMore Go.Proofs.YtfjhiiaahbjaiaaGreatDoorW.PrintMore.Kd
attribute [local go_sem] Xb2 Xb0 Xcd Xcc Xbq Xbp Xb1 Xbz
set_option linter.unusedVariables false
set_option linter.unusedSimpArgs false
mutual
def Xap.l0:Nat→List (List (S32))→Int→List (List (S32))→Int→Int→Option ((List (S32)))
 |0,_,_,_,_,_=>none
 |k+1,x0,x3,x9,z,s=>if s<z then(if 0≤s then(if s<(x9.length:Int)then(if(wrap64 (x3+((Xbo x9 s).length:Int)))<0 then(none)else(Xap.l0 k x0 (wrap64 (x3+((Xbo x9 s).length:Int))) x9 z (wrap64 (s+1))))else(none))else(none))else((Xdi.f x3).bind fun B=>(Xap.l1 k B x0 (x0.length:Int) 0))
def Xap.l1:Nat→List (S32)→List (List (S32))→Int→Int→Option ((List (S32)))
 |0,_,_,_,_=>none
 |k+1,x6,z,B,s=>if s<B then(if 0≤s then(if s<(z.length:Int)then(if x6.length+(Xbo z s).length<1759218604441 then(Xap.l1 k (x6++(Xbo z s)) z B (wrap64 (s+1)))else(none))else(none))else(none))else(some x6)
end
def Xap.f(k:Nat)(l0:List (List (S32))):Option ((List (S32))):=Xap.l0 k l0 0 l0 (l0.length:Int) 0
theorem Xap.mono_l:∀k,(∀y0 y1 y2 y3 y4,LeO (Xap.l0 k y0 y1 y2 y3 y4) (Xap.l0 (k+1) y0 y1 y2 y3 y4))∧(∀y0 y1 y2 y3,LeO (Xap.l1 k y0 y1 y2 y3) (Xap.l1 (k+1) y0 y1 y2 y3))
 |0=>⟨fun _ _ _ _ _ r h=>by simp[Xap.l0]at h,fun _ _ _ _ r h=>by simp[Xap.l1]at h⟩
 |k+1=>by
  obtain⟨ih0,ih1⟩:=Xap.mono_l k;refine⟨?_,?_⟩
  ·intro y0 y1 y2 y3 y4;unfold Xap.l0;exact mz0
  ·intro y0 y1 y2 y3;unfold Xap.l1;exact mz0
theorem Xap.mono:∀a0 k,LeO (Xap.f k a0) (Xap.f (k+1) a0):=by intro a0 k;obtain⟨ih0,ih1⟩:=Xap.mono_l k;unfold Xap.f;exact mz0
set_option maxHeartbeats 8000000 in
set_option maxRecDepth 100000 in
theorem Xap.calls(k:Nat)(I:Nat→Prop)(A0:Option Addr)(c0:Nat)(l0:List (List (S32)))(r:List (S32))(w:World)(bh:Kd.V (Kd.slice 32 k32) 22 w w.heap.size (fun k_=>I k_) (.slice A0 l0.length c0) l0)(h:Xap.f k l0=some r):
  Calls Tryz.prog 74 #[.slice A0 l0.length c0] w fun e w'=>∃aQ:Value,e= .returned (aQ)∧Kd.N k32 32 w' w.heap.size (fun k_=>(I k_∨w.heap.size≤k_)) aQ r∧Below w.heap.size w w':=by
 have aT:=zq (show Kd.V (Kd.slice 32 k32) 22 w w.heap.size (fun k_=>(I k_∨w.heap.size≤k_)) (.slice A0 l0.length c0) l0 from lC bh (fun k_ hk=>.inl hk));have HB:=zq (Below.refl w.heap.size w);unfold Xap.f at h;have H:=h;clear h;have H':=zq H;clear H;go_enter Tryz.func74,Tryz.ntmps74;go_wp2
 go_loopg [3,11] k (fun kq v3 bi w'=>∃(aa:Int)(s:Int),v3= .int .i64 aa∧bi= .int .i64 s∧Aside0 (Xap.l0 kq l0 aa l0 (l0.length:Int) s=some r)∧Aside0 (kq≤k)∧Aside0 (Kd.V (Kd.slice 32 k32) 22 w' w.heap.size (fun k_=>(I k_∨w.heap.size≤k_)) (.slice A0 l0.length c0) l0)∧Aside0 (Kd.V (Kd.slice 32 k32) 22 w' w.heap.size (fun k_=>(I k_∨w.heap.size≤k_)) (.slice A0 l0.length c0) l0)∧Aside0 (Below w.heap.size w w'))
 case atStart=>exact⟨(0),(0),J3,J3,H',⟨Nat.le_refl _⟩,⟨by(with_reducible repeat(first|apply Kd.V_alloc|apply Kd.V_drewN|apply lJ));exact aT.out⟩,⟨by(with_reducible repeat(first|apply Kd.V_alloc|apply Kd.V_drewN|apply lJ));exact aT.out⟩,⟨J0⟩⟩
 case round=>
  clear H';obtain⟨aa,s,rfl,rfl,HA,ay,aj,ak,HB⟩:=hrel;cases gk with
  |zero=>exact absurd HA.out (by simp[Xap.l0])
  |succ k1=>
   have H:=HA.out;clear HA;simp only[Xap.l0]at H;refine yD H ?_ ?_<;>clear H<;>rintro aU H
   ·refine yu H ?_ ?_<;>clear H<;>rintro c3 H
    ·have bq:decide (0≤s)=true:=decide_eq_true c3;clear c3;refine yu H ?_ ?_<;>clear H<;>rintro c4 H
     ·have br:decide (s<(l0.length:Int))=true:=decide_eq_true c4;clear c4;refine yu H ?_ ?_<;>clear H<;>rintro c5 H
      ·exact absurd H J92
      ·have bs:decide ((wrap64 (aa+((Xbo l0 s).length:Int)))<0)=false:=decide_eq_false c5;clear c5;have H':=zq H;clear H;have al:0≤(s:Int):=of_decide_eq_true J2;have am:s<(l0.length:Int):=of_decide_eq_true J2;obtain⟨bj,bd,be,aV,ar,ab,ac⟩:=at_L5 (lE ak.out).2.2 s al am;cases aV;obtain⟨bk,aA,aC,an⟩:=mT ak.out [] s al (by first|exact am|exact of_decide_eq_true J2|(have e_:=(lE ak.out).1;omega));obtain⟨aW,aX,rfl,J,K⟩:=me aC;have B:=an 0 _ rfl;rw[Nat.add_zero,show((Kd.slice 32 k32)).sz=1 from rfl,Nat.mul_one]at B;replace B:=Option.some.inj (B.symm.trans ar);injection B with ae au af;rw[ae]at K;rw[af]at J;have aY:=zq (show Kd.V k32 32 _ w.heap.size _ _ (Xbo l0 s)from mb J K);clear ae au af K J;clear an aA;have aZ:=zq ac;have a5:=zq ab;clear ac ab;replace al:=eq_true al;replace am:=eq_true am;go_wp2
       go_roundg k1
       case measure=>have:=ay.out;omega
       case rel=>exact⟨(wrap64 (aa+((Xbo l0 s).length:Int))),(wrap64 (s+1)),J3,J3,H',⟨by have:=ay.out;omega⟩,⟨by(with_reducible repeat(first|apply Kd.V_alloc|apply Kd.V_drewN|apply lJ));exact aj.out⟩,⟨by(with_reducible repeat(first|apply Kd.V_alloc|apply Kd.V_drewN|apply lJ));exact ak.out⟩,⟨J0⟩⟩
     ·exact absurd H J92
    ·exact absurd H J92
   refine yv H ?_;clear H;rintro aG A6 H;have H':=zq H;clear H;go_wp2_with(first|((with_reducible refine Xh (f:=85) rfl ?_);refine gL Tryz.func85 (Xdi.calls aa aG _ A6.out) ?_;rintro e w7 ⟨bu,rfl,aI,hb⟩;refine⟨_,rfl,?_⟩;replace aj:=zq (lY (zv aj.out) (lS aI) hb);have aJ:=zq (lI (lz (ok':=fun k_=>(I k_∨w.heap.size≤k_)) aI (fun k_ bl=>(.inr (Nat.le_trans (Xe J0) bl)))) (Xe J0));replace HB:=zq (Xb J0 hb);(try clear hb);(try clear hk);(try clear aI)))
   go_loopg [6,27] k1 (fun kq v6 bm w'=>∃(ag:List (S32))(z:Int),bm= .int .i64 z∧Aside0 (Xap.l1 kq ag l0 (l0.length:Int) z=some r)∧Aside0 (kq≤k1)∧Aside0 (Kd.N k32 32 w' w.heap.size (fun k_=>(I k_∨w.heap.size≤k_)) v6 ag)∧Aside0 (Kd.V (Kd.slice 32 k32) 22 w' w.heap.size (fun k_=>(I k_∨w.heap.size≤k_)∧some k_≠(v6:Value).ownBlock) (.slice A0 l0.length c0) l0)∧Aside0 (Below w.heap.size w w'))
   case atStart=>exact⟨(aG),(0),J3,H',⟨Nat.le_refl _⟩,⟨by(with_reducible repeat(first|apply Kd.N_alloc|apply Kd.N_drewN|apply lG));exact aJ.out⟩,⟨by(with_reducible repeat(first|apply Kd.V_alloc|apply Kd.V_drewN|apply lJ));exact aj.out⟩,⟨J0⟩⟩
   case round=>
    clear H';try clear aU
    obtain⟨ag,z,rfl,HA,a6,av,G,HB⟩:=hrel;cases gk with
    |zero=>exact absurd HA.out (by simp[Xap.l1])
    |succ k2=>
     have H:=HA.out;clear HA;simp only[Xap.l1]at H;refine yd H ?_ ?_<;>clear H<;>rintro bv H
     ·obtain rfl:=yo H;go_wp2;go_ret;exact⟨_,J1,by(with_reducible repeat(first|apply Kd.N_alloc|apply Kd.N_drewN|apply lG));exact av.out,J0⟩
     refine yj H ?_;clear H;intro bw H;refine yj H ?_;clear H;intro bn H;refine yi H ?_;clear H;intro a7 H;have aK:=zq a7;clear a7;obtain⟨aH,L⟩:∃y_:List (S32),y_=(ag++(Xbo l0 z)):=⟨_,rfl⟩;replace H:(Xap.l1 k2 aH l0 (l0.length:Int) (wrap64 (z+1)))=some r:=by first|(rw[L];with_reducible exact H)|(have aM:=(Option.bind_some _ _).symm.trans H;rw[L];with_reducible exact aM)|(have aM:=(Option.bind_some _ _).symm.trans H;with_reducible exact aM)|with_reducible exact H|(rw[L];exact H)|exact H
     have aN:=zq L;clear L;have H':=zq H;clear H;have ao:0≤(z:Int):=of_decide_eq_true J2;have ap:z<(l0.length:Int):=of_decide_eq_true J2;obtain⟨bo,bf,bg,a8,aw,ah,ai⟩:=at_L5 (lE G.out).2.2 z ao ap;cases a8;obtain⟨bp,aD,aE,aq⟩:=mT G.out [] z ao (by first|exact ap|exact of_decide_eq_true J2|(have e_:=(lE G.out).1;omega));obtain⟨a9,ba,rfl,O,U⟩:=me aE;have D:=aq 0 _ rfl;rw[Nat.add_zero,show((Kd.slice 32 k32)).sz=1 from rfl,Nat.mul_one]at D;replace D:=Option.some.inj (D.symm.trans aw);injection D with ae au af;rw[ae]at U;rw[af]at O;have ax:=zq (show Kd.V k32 32 _ w.heap.size _ _ (Xbo l0 z)from mb O U);clear ae au af U O;clear aq aD;have bb:=zq ai;have bc:=zq ah;clear ai ah;replace ao:=eq_true ao;replace ap:=eq_true ap;go_wp2_with(first|((with_reducible refine Xa8 (b:=.append) (xs:=#[.tmp 31,.tmp 32]) rfl ?_);at_builtin;refine mh k32 (w0:=w) w.heap.size rfl (.tmp 31) (.tmp 32) 22 32 (.agg #[(.int .i64 0),(.slice none 0 0),(.slice none 0 0),(.slice none 0 0)]) 80 rfl Tryz.underlying22 Xdg rfl J18 J28 u6 ag (Xbo l0 z) _ _ _ (fun k_=>(I k_∨w.heap.size≤k_)) (fun k_=>((fun k_=>(I k_∨w.heap.size≤k_))) k_∧some k_≠(u6:Value).ownBlock) rfl rfl ?aO ?aR (fun _ hk=>hk) ?aF ?aB ?aS ?aL ?_;(case aR=>exact(by skip;exact Kd.V_F (lC (ok':=(fun k_=>((fun k_=>(I k_∨w.heap.size≤k_))) k_∧some k_≠(u6:Value).ownBlock)) (ax.out) (fun k_ hk=>⟨hk.1,hk.2⟩))));(case aB=>exact J0);(case aF=>exact(fun k_ hk=>(.inr (Nat.le_trans (Xe J0) hk))));(case aO=>exact(zn av.out));(case aS=>exact(Xe J0));(case aL=>have:=aK.out;omega);intro bx bz ho hb hg hat;rw[←aN.out]at ho;replace G:=zq (lV (ok:=(fun k_=>(I k_∨w.heap.size≤k_))) (zv G.out) hg hat);replace HB:=zq (hb);have aP:=zq (ho);clear av;clear ho hb hg hat))
     go_roundg k2
     case measure=>have:=ay.out;have:=a6.out;omega
     case rel=>exact⟨(aH),(wrap64 (z+1)),J3,H',⟨by have:=ay.out;have:=a6.out;omega⟩,⟨by(with_reducible repeat(first|apply Kd.N_alloc|apply Kd.N_drewN|apply lG));exact aP.out⟩,⟨by(with_reducible repeat(first|apply Kd.V_alloc|apply Kd.V_drewN|apply lJ));exact G.out⟩,⟨J0⟩⟩
end Go.Proofs.YtfjhiiaahbjaiaaGreatDoor.HSystemTells
