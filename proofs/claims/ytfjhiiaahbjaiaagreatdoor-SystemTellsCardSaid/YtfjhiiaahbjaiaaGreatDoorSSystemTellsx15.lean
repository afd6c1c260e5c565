/- Words and walks, shortened by a program: what this claim's functions answer, and that other memory stays. -/
import Derived.Test.YtfjhiiaahbjaiaaGreatDoorSSystemTellsx0
import Derived.Test.YtfjhiiaahbjaiaaGreatDoorSSystemTellsx1
import Derived.Test.YtfjhiiaahbjaiaaGreatDoorSSystemTellsx14
namespace Go.Proofs.YtfjhiiaahbjaiaaGreatDoor.HSystemTells
open Go.RowKit Go.Proofs.YtfjhiiaahbjaiaaGreatDoorW.PrintWords Go.Proofs.YtfjhiiaahbjaiaaGreatDoorW.PrintWords.Kd Go.Proofs.YtfjhiiaahbjaiaaGreatDoorW.PrintLast Go.Proofs.YtfjhiiaahbjaiaaGreatDoorW.PrintMore Go.Proofs.YtfjhiiaahbjaiaaGreatDoorW.PrintMore.Kd
attribute [local go_sem] Xb2 Xb0 Xcd Xcc Xbq Xbp Xb1 Xbz
set_option linter.unusedVariables false
set_option linter.unusedSimpArgs false
attribute [local go_sem high] eqA35
def Xak.l0:Nat→Int→Int→List Int→List Int→List (S35)→Int→List Int→List Int→List (S35)→Option (Bool)
 |0,_,_,_,_,_,_,_,_,_=>none
 |k+1,x5,B,D,G,s,H,I,J,z=>if x5<(s.length:Int)then(if 0≤x5 then(if x5<(z.length:Int)then(if(!(((Xw s x5).f0)==((Xw z x5).f0))||(!(((Xw s x5).f1)==((Xw z x5).f1))))=true then(some false)else(Xak.l0 k (wrap64 (x5+1)) B D G s H I J z))else(none))else(none))else(if B=H then((X4.f k D I).bind fun K=>(if K=true then((X4.f k G J).bind fun L=>(some L))else(some false)))else(some false))
def Xak.f(k:Nat)(B:Int)(D:List Int)(G:List Int)(s:List (S35))(H:Int)(I:List Int)(J:List Int)(z:List (S35)):Option (Bool):=if(s.length:Int)=(z.length:Int)then(Xak.l0 k 0 B D G s H I J z)else(some false)
theorem Xak.mono_l:∀k,(∀y0 y1 y2 y3 y4 y5 y6 y7 y8,LeO (Xak.l0 k y0 y1 y2 y3 y4 y5 y6 y7 y8) (Xak.l0 (k+1) y0 y1 y2 y3 y4 y5 y6 y7 y8))
 |0=>fun _ _ _ _ _ _ _ _ _ r h=>by simp[Xak.l0]at h
 |k+1=>by
  have ih0:=Xak.mono_l k
  ·intro y0 y1 y2 y3 y4 y5 y6 y7 y8;unfold Xak.l0;have im0:=@X4.mono;exact mz3
theorem Xak.mono:∀a0 a1 a2 a3 a4 a5 a6 a7 k,LeO (Xak.f k a0 a1 a2 a3 a4 a5 a6 a7) (Xak.f (k+1) a0 a1 a2 a3 a4 a5 a6 a7):=by intro a0 a1 a2 a3 a4 a5 a6 a7 k;have ih0:=Xak.mono_l k;unfold Xak.f;have im0:=@X4.mono;exact mz3
set_option maxHeartbeats 8000000 in
set_option maxRecDepth 100000 in
theorem Xak.calls(k:Nat)(aa:Int)(ab:Option Addr)(ac:Nat)(J:List Int)(ae:Option Addr)(af:Nat)(L:List Int)(ag:Option Addr)(ah:Nat)(K:List (S35))(am:Int)(an:Option Addr)(ao:Nat)(ai:List Int)(ap:Option Addr)(aq:Nat)(ak:List Int)(ar:Option Addr)(au:Nat)(aj:List (S35))(r:Bool)(w:World)(aH:Kd.C (Kd.int .i64) w ab J.length J)(aI:J.length≤ac)(aJ:Kd.C (Kd.int .i64) w ae L.length L)(aK:L.length≤af)(aL:Kd.C k35 w ag K.length K)(aM:K.length≤ah)(aN:Kd.C (Kd.int .i64) w an ai.length ai)(aO:ai.length≤ao)(aP:Kd.C (Kd.int .i64) w ap ak.length ak)(aQ:ak.length≤aq)(aR:Kd.C k35 w ar aj.length aj)(aS:aj.length≤au)(h:Xak.f k aa J L K am ai ak aj=some r):
  Calls Tryz.prog 23 #[.agg #[.int .i64 aa,.slice ab J.length ac,.slice ae L.length af,.slice ag K.length ah],.agg #[.int .i64 am,.slice an ai.length ao,.slice ap ak.length aq,.slice ar aj.length au]] w fun e w'=>e= .returned (.bool r)∧Below w.heap.size w w':=by
 have bL:=Tryz.underlying32;have bM:=Tryz.underlying35;have av:=zq aH;have aw:=zq aI;clear aH aI;have aC:=zq aJ;have aD:=zq aK;clear aJ aK;have aT:=zq aL;have bs:=zq aM;clear aL aM;have ax:=zq aN;have ay:=zq aO;clear aN aO;have aE:=zq aP;have aF:=zq aQ;clear aP aQ;have aU:=zq aR;have bu:=zq aS;clear aR aS;have HB:=zq (Below.refl w.heap.size w);unfold Xak.f at h;have H:=h;clear h;refine yE H ?_ ?_<;>clear H<;>rintro⟨bh,bi,c3⟩ H
 ·have ba:(K.length==aj.length)=false:=by first|simpa using c3|(simp at c3⊢;omega)
  obtain rfl:=yo H;go_enter Tryz.func23,Tryz.ntmps23;go_wp2_with(first|((with_reducible refine Xk (N:=2) rfl ?_);refine bxw 2 32 #[.int .i64 aa,.slice ab J.length ac,.slice ae L.length af,.slice ag K.length ah] ?_;intro z hg bj hbox hb;have s:=zq (hbox);have aA:=zq ((J20:w.heap.size≤z));have B:=zq ((J20:w.heap.size≤z));replace HB:=zq (Xb J0 hb);clear hb hbox hg)|((with_reducible refine Xk (N:=3) rfl ?_);refine bxw 3 32 #[.int .i64 am,.slice an ai.length ao,.slice ap ak.length aq,.slice ar aj.length au] ?_;intro I hg bk hbox hb;have O:=zq (hbox);have aB:=zq ((J54:w.heap.size≤I));have U:=zq ((J54:w.heap.size≤I));replace HB:=zq (Xb (zs1 B.out) hb);have D:=zq ((J62:z≠I));have G:=zq ((J63:I≠z));replace s:=zq (Xg (zk s.out) hb);clear hb hbox hg;have aV:=D.out;have aW:=G.out;have bl:=cz4 s.out;have bm:=cz4 O.out));repeat(go_quiet (first|((with_reducible refine Xk (N:=2) rfl ?_);refine bxw 2 32 #[.int .i64 aa,.slice ab J.length ac,.slice ae L.length af,.slice ag K.length ah] ?_;intro z hg bj hbox hb;have s:=zq (hbox);have aA:=zq ((J20:w.heap.size≤z));have B:=zq ((J20:w.heap.size≤z));replace HB:=zq (Xb J0 hb);clear hb hbox hg)|((with_reducible refine Xk (N:=3) rfl ?_);refine bxw 3 32 #[.int .i64 am,.slice an ai.length ao,.slice ap ak.length aq,.slice ar aj.length au] ?_;intro I hg bk hbox hb;have O:=zq (hbox);have aB:=zq ((J54:w.heap.size≤I));have U:=zq ((J54:w.heap.size≤I));replace HB:=zq (Xb (zs1 B.out) hb);have D:=zq ((J62:z≠I));have G:=zq ((J63:I≠z));replace s:=zq (Xg (zk s.out) hb);clear hb hbox hg;have aV:=D.out;have aW:=G.out;have bl:=cz4 s.out;have bm:=cz4 O.out));try go_wp2_with(first|((with_reducible refine Xk (N:=2) rfl ?_);refine bxw 2 32 #[.int .i64 aa,.slice ab J.length ac,.slice ae L.length af,.slice ag K.length ah] ?_;intro z hg bj hbox hb;have s:=zq (hbox);have aA:=zq ((J20:w.heap.size≤z));have B:=zq ((J20:w.heap.size≤z));replace HB:=zq (Xb J0 hb);clear hb hbox hg)|((with_reducible refine Xk (N:=3) rfl ?_);refine bxw 3 32 #[.int .i64 am,.slice an ai.length ao,.slice ap ak.length aq,.slice ar aj.length au] ?_;intro I hg bk hbox hb;have O:=zq (hbox);have aB:=zq ((J54:w.heap.size≤I));have U:=zq ((J54:w.heap.size≤I));replace HB:=zq (Xb (zs1 B.out) hb);have D:=zq ((J62:z≠I));have G:=zq ((J63:I≠z));replace s:=zq (Xg (zk s.out) hb);clear hb hbox hg;have aV:=D.out;have aW:=G.out;have bl:=cz4 s.out;have bm:=cz4 O.out)))
  go_ret;exact⟨J1,J48⟩
 have ba:(K.length==aj.length)=true:=J133;clear c3;have H':=zq H;clear H;go_enter Tryz.func23,Tryz.ntmps23;go_wp2_with(first|((with_reducible refine Xk (N:=2) rfl ?_);refine bxw 2 32 #[.int .i64 aa,.slice ab J.length ac,.slice ae L.length af,.slice ag K.length ah] ?_;intro z hg w4 hbox hb;have s:=zq (hbox);have aA:=zq ((J20:w.heap.size≤z));have B:=zq ((J20:w.heap.size≤z));replace HB:=zq (Xb J0 hb);clear hb hbox hg)|((with_reducible refine Xk (N:=3) rfl ?_);refine bxw 3 32 #[.int .i64 am,.slice an ai.length ao,.slice ap ak.length aq,.slice ar aj.length au] ?_;intro I hg w5 hbox hb;have O:=zq (hbox);have aB:=zq ((J54:w.heap.size≤I));have U:=zq ((J54:w.heap.size≤I));replace HB:=zq (Xb (zs1 B.out) hb);have D:=zq ((J62:z≠I));have G:=zq ((J63:I≠z));replace s:=zq (Xg (zk s.out) hb);clear hb hbox hg;have bb:=D.out;have bc:=G.out;have Z7:=cz4 s.out;have Z8:=cz4 O.out));repeat(go_quiet (first|((with_reducible refine Xk (N:=2) rfl ?_);refine bxw 2 32 #[.int .i64 aa,.slice ab J.length ac,.slice ae L.length af,.slice ag K.length ah] ?_;intro z hg w4 hbox hb;have s:=zq (hbox);have aA:=zq ((J20:w.heap.size≤z));have B:=zq ((J20:w.heap.size≤z));replace HB:=zq (Xb J0 hb);clear hb hbox hg)|((with_reducible refine Xk (N:=3) rfl ?_);refine bxw 3 32 #[.int .i64 am,.slice an ai.length ao,.slice ap ak.length aq,.slice ar aj.length au] ?_;intro I hg w5 hbox hb;have O:=zq (hbox);have aB:=zq ((J54:w.heap.size≤I));have U:=zq ((J54:w.heap.size≤I));replace HB:=zq (Xb (zs1 B.out) hb);have D:=zq ((J62:z≠I));have G:=zq ((J63:I≠z));replace s:=zq (Xg (zk s.out) hb);clear hb hbox hg;have bb:=D.out;have bc:=G.out;have Z7:=cz4 s.out;have Z8:=cz4 O.out));try go_wp2_with(first|((with_reducible refine Xk (N:=2) rfl ?_);refine bxw 2 32 #[.int .i64 aa,.slice ab J.length ac,.slice ae L.length af,.slice ag K.length ah] ?_;intro z hg w4 hbox hb;have s:=zq (hbox);have aA:=zq ((J20:w.heap.size≤z));have B:=zq ((J20:w.heap.size≤z));replace HB:=zq (Xb J0 hb);clear hb hbox hg)|((with_reducible refine Xk (N:=3) rfl ?_);refine bxw 3 32 #[.int .i64 am,.slice an ai.length ao,.slice ap ak.length aq,.slice ar aj.length au] ?_;intro I hg w5 hbox hb;have O:=zq (hbox);have aB:=zq ((J54:w.heap.size≤I));have U:=zq ((J54:w.heap.size≤I));replace HB:=zq (Xb (zs1 B.out) hb);have D:=zq ((J62:z≠I));have G:=zq ((J63:I≠z));replace s:=zq (Xg (zk s.out) hb);clear hb hbox hg;have bb:=D.out;have bc:=G.out;have Z7:=cz4 s.out;have Z8:=cz4 O.out)))
 go_loopg [5] k (fun kq v5 w'=>∃(al:Int),v5= .int .i64 al∧Aside0 (Xak.l0 kq al aa J L K am ai ak aj=some r)∧Aside0 (kq≤k)∧Aside0 (w'.heap[z]?=some (.cells #[.int .i64 aa,(.slice ab J.length ac),(.slice ae L.length af),(.slice ag K.length ah)] 32 (0,0)))∧Aside0 (w'.heap[I]?=some (.cells #[.int .i64 am,(.slice an ai.length ao),(.slice ap ak.length aq),(.slice ar aj.length au)] 32 (0,0)))∧Aside0 (Below w.heap.size w w'))
 case atStart=>exact⟨(0),J3,H',⟨Nat.le_refl _⟩,⟨J12⟩,⟨J180⟩,⟨J48⟩⟩
 case round=>
  clear H';try clear c3
  try clear bh
  try clear bi
  try clear ba
  try clear Z7
  try clear Z8
  obtain⟨al,rfl,HA,bn,s,O,HB⟩:=hrel;cases gk with
  |zero=>exact absurd HA.out (by simp[Xak.l0])
  |succ k1=>
   have H:=HA.out;clear HA;simp only[Xak.l0]at H;refine yd H ?_ ?_<;>clear H<;>rintro bN H
   ·refine yF H ?_ ?_<;>clear H<;>rintro⟨bv,bw,bx⟩ H
    ·clear bx;refine yv H ?_;clear H;rintro bO aG H;refine yC H ?_ ?_<;>clear H<;>rintro rfl H
     ·refine yv H ?_;clear H;rintro aX bd H;obtain rfl:=yo H;have bz:=D.out;have bA:=G.out;have bP:=cz4 s.out;have bQ:=cz4 O.out;go_wp2_with(first|(go_at_call 44;(with_reducible refine(X4.calls k1 _ _ J _ _ ai true _ ?side1 ?side2 ?side3 ?side4 aG.out).mono ?_);(case side1=>exact zc (lp av.out HB.out));(case side2=>exact aw.out);(case side3=>exact zc (lp ax.out HB.out));(case side4=>exact ay.out);rintro e w' ⟨rfl,⟨nd,rfl⟩⟩;(try first|exact⟨rfl,_,World.drewN_drewN _ _ _⟩|exact⟨rfl,_,Eq.trans (World.drewN_drewN _ _ _) (congrArg (World.drewN _) (Nat.add_assoc _ _ _))⟩))|(go_at_call 44;(with_reducible refine(X4.calls k1 _ _ L _ _ ak aX _ ?side1 ?side2 ?side3 ?side4 bd.out).mono ?_);(case side1=>repeat(first|exact(lp aC.out (zs2 B.out U.out))|(with_reducible refine Kd.C_alloc ?_ _)|(with_reducible refine lB ?_ _)|(with_reducible refine Kd.C_drew ?_)));(case side2=>exact aD.out);(case side3=>repeat(first|exact(lp aE.out (zs2 B.out U.out))|(with_reducible refine Kd.C_alloc ?_ _)|(with_reducible refine lB ?_ _)|(with_reducible refine Kd.C_drew ?_)));(case side4=>exact aF.out);rintro e w' ⟨rfl,⟨nd,rfl⟩⟩;(try first|exact⟨rfl,_,World.drewN_drewN _ _ _⟩|exact⟨rfl,_,Eq.trans (World.drewN_drewN _ _ _) (congrArg (World.drewN _) (Nat.add_assoc _ _ _))⟩)));repeat(go_quiet (first|(go_at_call 44;(with_reducible refine(X4.calls k1 _ _ J _ _ ai true _ ?side1 ?side2 ?side3 ?side4 aG.out).mono ?_);(case side1=>exact zc (lp av.out HB.out));(case side2=>exact aw.out);(case side3=>exact zc (lp ax.out HB.out));(case side4=>exact ay.out);rintro e w' ⟨rfl,⟨nd,rfl⟩⟩;(try first|exact⟨rfl,_,World.drewN_drewN _ _ _⟩|exact⟨rfl,_,Eq.trans (World.drewN_drewN _ _ _) (congrArg (World.drewN _) (Nat.add_assoc _ _ _))⟩))|(go_at_call 44;(with_reducible refine(X4.calls k1 _ _ L _ _ ak aX _ ?side1 ?side2 ?side3 ?side4 bd.out).mono ?_);(case side1=>repeat(first|exact(lp aC.out (zs2 B.out U.out))|(with_reducible refine Kd.C_alloc ?_ _)|(with_reducible refine lB ?_ _)|(with_reducible refine Kd.C_drew ?_)));(case side2=>exact aD.out);(case side3=>repeat(first|exact(lp aE.out (zs2 B.out U.out))|(with_reducible refine Kd.C_alloc ?_ _)|(with_reducible refine lB ?_ _)|(with_reducible refine Kd.C_drew ?_)));(case side4=>exact aF.out);rintro e w' ⟨rfl,⟨nd,rfl⟩⟩;(try first|exact⟨rfl,_,World.drewN_drewN _ _ _⟩|exact⟨rfl,_,Eq.trans (World.drewN_drewN _ _ _) (congrArg (World.drewN _) (Nat.add_assoc _ _ _))⟩)));try go_wp2_with(first|(go_at_call 44;(with_reducible refine(X4.calls k1 _ _ J _ _ ai true _ ?side1 ?side2 ?side3 ?side4 aG.out).mono ?_);(case side1=>exact zc (lp av.out HB.out));(case side2=>exact aw.out);(case side3=>exact zc (lp ax.out HB.out));(case side4=>exact ay.out);rintro e w' ⟨rfl,⟨nd,rfl⟩⟩;(try first|exact⟨rfl,_,World.drewN_drewN _ _ _⟩|exact⟨rfl,_,Eq.trans (World.drewN_drewN _ _ _) (congrArg (World.drewN _) (Nat.add_assoc _ _ _))⟩))|(go_at_call 44;(with_reducible refine(X4.calls k1 _ _ L _ _ ak aX _ ?side1 ?side2 ?side3 ?side4 bd.out).mono ?_);(case side1=>repeat(first|exact(lp aC.out (zs2 B.out U.out))|(with_reducible refine Kd.C_alloc ?_ _)|(with_reducible refine lB ?_ _)|(with_reducible refine Kd.C_drew ?_)));(case side2=>exact aD.out);(case side3=>repeat(first|exact(lp aE.out (zs2 B.out U.out))|(with_reducible refine Kd.C_alloc ?_ _)|(with_reducible refine lB ?_ _)|(with_reducible refine Kd.C_drew ?_)));(case side4=>exact aF.out);rintro e w' ⟨rfl,⟨nd,rfl⟩⟩;(try first|exact⟨rfl,_,World.drewN_drewN _ _ _⟩|exact⟨rfl,_,Eq.trans (World.drewN_drewN _ _ _) (congrArg (World.drewN _) (Nat.add_assoc _ _ _))⟩))))
      go_ret;exact⟨J1,J48⟩
     ·obtain rfl:=yo H;have bB:=D.out;have bC:=G.out;have bR:=cz4 s.out;have bS:=cz4 O.out;go_wp2_with(first|(go_at_call 44;(with_reducible refine(X4.calls k1 _ _ J _ _ ai false _ ?side1 ?side2 ?side3 ?side4 aG.out).mono ?_);(case side1=>exact zc (lp av.out HB.out));(case side2=>exact aw.out);(case side3=>exact zc (lp ax.out HB.out));(case side4=>exact ay.out);rintro e w' ⟨rfl,⟨nd,rfl⟩⟩;(try first|exact⟨rfl,_,World.drewN_drewN _ _ _⟩|exact⟨rfl,_,Eq.trans (World.drewN_drewN _ _ _) (congrArg (World.drewN _) (Nat.add_assoc _ _ _))⟩)));repeat(go_quiet (first|(go_at_call 44;(with_reducible refine(X4.calls k1 _ _ J _ _ ai false _ ?side1 ?side2 ?side3 ?side4 aG.out).mono ?_);(case side1=>exact zc (lp av.out HB.out));(case side2=>exact aw.out);(case side3=>exact zc (lp ax.out HB.out));(case side4=>exact ay.out);rintro e w' ⟨rfl,⟨nd,rfl⟩⟩;(try first|exact⟨rfl,_,World.drewN_drewN _ _ _⟩|exact⟨rfl,_,Eq.trans (World.drewN_drewN _ _ _) (congrArg (World.drewN _) (Nat.add_assoc _ _ _))⟩)));try go_wp2_with(first|(go_at_call 44;(with_reducible refine(X4.calls k1 _ _ J _ _ ai false _ ?side1 ?side2 ?side3 ?side4 aG.out).mono ?_);(case side1=>exact zc (lp av.out HB.out));(case side2=>exact aw.out);(case side3=>exact zc (lp ax.out HB.out));(case side4=>exact ay.out);rintro e w' ⟨rfl,⟨nd,rfl⟩⟩;(try first|exact⟨rfl,_,World.drewN_drewN _ _ _⟩|exact⟨rfl,_,Eq.trans (World.drewN_drewN _ _ _) (congrArg (World.drewN _) (Nat.add_assoc _ _ _))⟩))))
      go_ret;exact⟨J1,J48⟩
    ·obtain rfl:=yo H;have bD:=D.out;have bE:=G.out;have bT:=cz4 s.out;have bU:=cz4 O.out;go_wp2;repeat(go_quiet (fail);try go_wp2)
     go_ret;exact⟨J1,J48⟩
   refine yj H ?_;clear H;intro bF H;refine yj H ?_;clear H;intro bG H;refine yu H ?_ ?_<;>clear H<;>rintro a9 H
   ·have be:(!(((Xw K al).f0)==((Xw aj al).f0))||(!(((Xw K al).f1)==((Xw aj al).f1))))=true:=a9;clear a9;obtain rfl:=yo H;have bH:=D.out;have bI:=G.out;have bV:=cz4 s.out;obtain⟨bf,aY,aZ,a5,bo,bp⟩:=rdD aT.out HB.out al;cases aY;have bW:=cz4 O.out;obtain⟨bg,a6,a7,a8,bq,br⟩:=rdD aU.out HB.out al;cases a6;go_wp2;repeat(go_quiet (fail);try go_wp2)
    go_ret;exact⟨J1,J48⟩
   have be:(!(((Xw K al).f0)==((Xw aj al).f0))||(!(((Xw K al).f1)==((Xw aj al).f1))))=false:=by simpa using a9
   clear a9;have H':=zq H;clear H;have bJ:=D.out;have bK:=G.out;have bX:=cz4 s.out;obtain⟨bf,aY,aZ,a5,bo,bp⟩:=rdD aT.out HB.out al;cases aY;have bY:=cz4 O.out;obtain⟨bg,a6,a7,a8,bq,br⟩:=rdD aU.out HB.out al;cases a6;go_wp2;repeat(go_quiet (fail);try go_wp2)
   go_roundg k1
   case measure=>have:=bn.out;omega
   case rel=>exact⟨(wrap64 (al+1)),J3,H',⟨by have:=bn.out;omega⟩,⟨J12⟩,⟨J180⟩,⟨J48⟩⟩
def deckleref10_Same.l0:Nat→List (S32)→List (S32)→Int→Option (Bool)
 |0,_,_,_=>none
 |k+1,x0,x1,x5=>if x5<(x0.length:Int)then(if 0≤x5 then(if x5<(x1.length:Int)then((Xak.f k ((Xa x0 x5).f0) ((Xa x0 x5).f1) ((Xa x0 x5).f2) ((Xa x0 x5).f3) ((Xa x1 x5).f0) ((Xa x1 x5).f1) ((Xa x1 x5).f2) ((Xa x1 x5).f3)).bind fun s=>(if s=true then(deckleref10_Same.l0 k x0 x1 (wrap64 (x5+1)))else(some false)))else(none))else(none))else(some true)
def deckleref10_Same.f(k:Nat)(l0:List (S32))(l1:List (S32)):Option (Bool):=if(l0.length:Int)=(l1.length:Int)then(deckleref10_Same.l0 k l0 l1 0)else(some false)
theorem deckleref10_Same.mono_l:∀k,(∀y0 y1 y2,LeO (deckleref10_Same.l0 k y0 y1 y2) (deckleref10_Same.l0 (k+1) y0 y1 y2))
 |0=>fun _ _ _ r h=>by simp[deckleref10_Same.l0]at h
 |k+1=>by
  have ih0:=deckleref10_Same.mono_l k
  ·intro y0 y1 y2;unfold deckleref10_Same.l0;have im0:=@Xak.mono;exact mz3
theorem deckleref10_Same.mono:∀a0 a1 k,LeO (deckleref10_Same.f k a0 a1) (deckleref10_Same.f (k+1) a0 a1):=by intro a0 a1 k;have ih0:=deckleref10_Same.mono_l k;unfold deckleref10_Same.f;have im0:=@Xak.mono;exact mz3
def deckleref10_Same.T6:Bool×List (List Nat×List Nat):=(true,[([],[]),([],[]),([0,1],[0,1]),([2],[2]),([],[]),([],[]),([4,5],[4,5]),([6],[6]),([3,7],[3,7]),([8],[8])])
def deckleref10_Same.B6:List Nat:=[0,0,3,7,0,0,48,112,255,511]
theorem deckleref10_Same.tab6:Xde .any (opsOf Tryz.f10 6)=deckleref10_Same.T6:=J30
theorem deckleref10_Same.bits6:Xdc deckleref10_Same.T6.2 deckleref10_Same.B6=true:=J30
set_option maxHeartbeats 8000000 in
set_option maxRecDepth 100000 in
theorem deckleref10_Same.calls(k:Nat)(A0:Option Addr)(c0:Nat)(l0:List (S32))(A1:Option Addr)(c1:Nat)(l1:List (S32))(r:Bool)(w:World)(bb:Kd.C k32 w A0 l0.length l0)(bc:l0.length≤c0)(bd:Kd.C k32 w A1 l1.length l1)(be:l1.length≤c1)(h:deckleref10_Same.f k l0 l1=some r):
  Calls Tryz.prog 10 #[.slice A0 l0.length c0,.slice A1 l1.length c1] w fun e w'=>e= .returned (.bool r)∧Below w.heap.size w w':=by
 have bk:=Tryz.underlying32;have bf:=zq bb;have bp:=zq bc;clear bb bc;have bg:=zq bd;have bq:=zq be;clear bd be;have HB:=zq (Below.refl w.heap.size w);unfold deckleref10_Same.f at h;have H:=h;clear h;refine yE H ?_ ?_<;>clear H<;>rintro⟨bh,bi,c3⟩ H
 ·have ba:(l0.length==l1.length)=false:=by first|simpa using c3|(simp at c3⊢;omega)
  obtain rfl:=yo H;go_enter Tryz.func10,Tryz.ntmps10;go_wp2;go_ret;exact⟨J1,J0⟩
 have ba:(l0.length==l1.length)=true:=J133;clear c3;have H':=zq H;clear H;go_enter Tryz.func10,Tryz.ntmps10;go_wp2
 go_loopg [5] k (fun kq v5 w'=>∃(s:Int),v5= .int .i64 s∧Aside0 (deckleref10_Same.l0 kq l0 l1 s=some r)∧Aside0 (kq≤k)∧Aside0 (Below w.heap.size w w'))
 case atStart=>exact⟨(0),J3,H',⟨Nat.le_refl _⟩,⟨J0⟩⟩
 case round=>
  clear H';try clear c1
  try clear c3
  try clear bh
  try clear bi
  try clear ba
  obtain⟨s,rfl,HA,bj,HB⟩:=hrel;cases gk with
  |zero=>exact absurd HA.out (by simp[deckleref10_Same.l0])
  |succ k1=>
   have H:=HA.out;clear HA;simp only[deckleref10_Same.l0]at H;refine yd H ?_ ?_<;>clear H<;>rintro bl H
   ·obtain rfl:=yo H;go_wp2;go_ret;exact⟨J1,J0⟩
   refine yj H ?_;clear H;intro bm H;refine yj H ?_;clear H;intro bn H;refine yv H ?_;clear H;rintro bo A7 H;refine yB H ?_ ?_<;>clear H<;>rintro rfl H
   ·obtain rfl:=yo H;try go_wp2
    replace HB:=zq (Xan HB.out);have aQ:0≤(s:Int):=of_decide_eq_true J2;have aR:s<(l0.length:Int):=of_decide_eq_true J2;obtain⟨a5,aE,aF,aG,aH,aI,aJ,a7,z,B,D,G,aa,ab,ac,ae,af,ag⟩:=Xcs bf.out s aQ aR;have ah:=G;have ai:=D;have aj:=B;have ak:=z;cases a7;replace z:=yh HB z;replace B:=yh HB B;replace D:=yh HB D;replace G:=yh HB G;have al:=zq ab;have aS:=zq aa;clear ab aa;have am:=zq ae;have aT:=zq ac;clear ae ac;have an:=zq ag;have aU:=zq af;clear ag af;replace aQ:=eq_true aQ;replace aR:=eq_true aR;have aV:0≤(s:Int):=of_decide_eq_true J2;have aW:s<(l1.length:Int):=of_decide_eq_true J2;obtain⟨a6,aK,aL,aM,aN,aO,aP,a8,I,J,L,O,ao,ap,aq,ar,au,av⟩:=Xcs bg.out s aV aW;have aw:=O;have ax:=L;have ay:=J;have aA:=I;cases a8;replace I:=yh HB I;replace J:=yh HB J;replace L:=yh HB L;replace O:=yh HB O;have aB:=zq ap;have aX:=zq ao;clear ap ao;have aC:=zq ar;have aY:=zq aq;clear ar aq;have aD:=zq av;have aZ:=zq au;clear av au;replace aV:=eq_true aV;replace aW:=eq_true aW;refine Xej (n:=10) (S:=fun w'=>hdENEN w' (a5.add ((s).toNat*4)) (Xa l0 s) aE aF aG aH aI aJ (a6.add ((s).toNat*4)) (Xa l1 s) aK aL aM aN aO aP) (ds:=[]) #[Z,Z,Z,Z,Z,Z,Z,Z,Z,Z] J30 rfl rfl ⟨(yh HB ak),(yh HB aj),(yh HB ai),(yh HB ah),(yh HB aA),(yh HB ay),(yh HB ax),(yh HB aw)⟩ (fun hHeld=>?_);refine Xc8 deckleref10_Same.tab6 deckleref10_Same.bits6 (fun U a9=>?_);generalize wr.drew=br at HB al am an aB aC aD z B D G I J L O hHeld⊢;refine Xbf 0 17 #[Y,Z,Z,Z,Z,Z,Z,Z,Z,Z] U ?_;refine Xbf 1 18 #[Y,Y,Z,Z,Z,Z,Z,Z,Z,Z] U ?_;refine Xbf 2 19 #[Y,Y,Y,Z,Z,Z,Z,Z,Z,Z] U ?_;refine Xbf 4 21 #[Y,Y,Y,Z,Y,Z,Z,Z,Z,Z] U ?_;refine Xbf 5 22 #[Y,Y,Y,Z,Y,Y,Z,Z,Z,Z] U ?_;refine Xbf 6 23 #[Y,Y,Y,Z,Y,Y,Y,Z,Z,Z] U ?_;refine Xdx (i:=3) (N:=some 20) (v:=?_) (a':=?_) #[Y,Y,Y,Y,Y,Y,Y,Z,Z,Z] rfl rfl (Xcu U.out a9.out J30) (fun _ _ _ h=>h) (Or.inl ⟨Xbm,?_⟩) hHeld ?_ ?_;rotate_left
    ·rintro w' ⟨s0,s1,s2,s3,s4,s5,s6,s7⟩;go_simp;with_reducible rfl
    rotate_left
    ·exact pz1
    refine Xdx (i:=7) (N:=some 24) (v:=?_) (a':=?_) #[Y,Y,Y,Y,Y,Y,Y,Y,Z,Z] rfl rfl (Xcu U.out a9.out J30) (fun _ _ _ h=>h) (Or.inl ⟨Xbm,?_⟩) hHeld ?_ ?_;rotate_left
    ·rintro w' ⟨s0,s1,s2,s3,s4,s5,s6,s7⟩;go_simp;with_reducible rfl
    rotate_left
    ·exact pz1
    refine Xdf (i:=8) (N:=some 25) #[Y,Y,Y,Y,Y,Y,Y,Y,Y,Z] rfl rfl (Xci U.out J30) J18 (fun K hK=>?_);refine Xdo Tryz.func23 J30 rfl #[.agg #[.int .i64 ((Xa l0 s).f0),.slice aE ((Xa l0 s).f1).length aF,.slice aG ((Xa l0 s).f2).length aH,.slice aI ((Xa l0 s).f3).length aJ],.agg #[.int .i64 ((Xa l1 s).f0),.slice aK ((Xa l1 s).f1).length aL,.slice aM ((Xa l1 s).f2).length aN,.slice aO ((Xa l1 s).f3).length aP]] Xbm rfl rfl J6 ?_;with_reducible refine(Xak.calls k1 ((Xa l0 s).f0) _ _ ((Xa l0 s).f1) _ _ ((Xa l0 s).f2) _ _ ((Xa l0 s).f3) ((Xa l1 s).f0) _ _ ((Xa l1 s).f1) _ _ ((Xa l1 s).f2) _ _ ((Xa l1 s).f3) false _ ?side1 ?side2 ?side3 ?side4 ?side5 ?side6 ?side7 ?side8 ?side9 ?side10 ?side11 ?side12 A7.out).mono ?_
    (case side1=>exact zc (lp al.out HB.out))
    (case side2=>exact aS.out)
    (case side3=>exact zc (lp am.out HB.out))
    (case side4=>exact aT.out)
    (case side5=>exact zc (lp an.out HB.out))
    (case side6=>exact aU.out)
    (case side7=>exact zc (lp aB.out HB.out))
    (case side8=>exact aX.out)
    (case side9=>exact zc (lp aC.out HB.out))
    (case side10=>exact aY.out)
    (case side11=>exact zc (lp aD.out HB.out))
    (case side12=>exact aZ.out)
    rintro e bs ⟨rfl,hb⟩;refine⟨_,rfl,?_⟩;replace HB:=zq (Xb J0 hb);(try clear hb);(try clear hb2);(try clear hk);(try clear hi);refine hK.out _ _ ⟨(yh HB ak),(yh HB aj),(yh HB ai),(yh HB ah),(yh HB aA),(yh HB ay),(yh HB ax),(yh HB aw)⟩ (fun hHeld=>?_);clear hK K;refine Xa0 (a':=?_) ?_ ?_;rotate_left
    ·show Act.put _ (some 25) _=_;simp only[Act.put,List.setIfInBounds_toArray,List.set_cons_zero,List.set_cons_succ,Xau,Xax];rfl
    refine Xbf 9 26 #[Y,Y,Y,Y,Y,Y,Y,Y,Y,Y] U ?_;refine done_ (Xd0 U.out J30) ?_;try go_wp2
    go_ret;exact⟨J1,J0⟩
   have H':=zq H;clear H;try go_wp2
   replace HB:=zq (Xan HB.out);have aQ:0≤(s:Int):=of_decide_eq_true J2;have aR:s<(l0.length:Int):=of_decide_eq_true J2;obtain⟨a5,aE,aF,aG,aH,aI,aJ,a7,z,B,D,G,aa,ab,ac,ae,af,ag⟩:=Xcs bf.out s aQ aR;have ah:=G;have ai:=D;have aj:=B;have ak:=z;cases a7;replace z:=yh HB z;replace B:=yh HB B;replace D:=yh HB D;replace G:=yh HB G;have al:=zq ab;have aS:=zq aa;clear ab aa;have am:=zq ae;have aT:=zq ac;clear ae ac;have an:=zq ag;have aU:=zq af;clear ag af;replace aQ:=eq_true aQ;replace aR:=eq_true aR;have aV:0≤(s:Int):=of_decide_eq_true J2;have aW:s<(l1.length:Int):=of_decide_eq_true J2;obtain⟨a6,aK,aL,aM,aN,aO,aP,a8,I,J,L,O,ao,ap,aq,ar,au,av⟩:=Xcs bg.out s aV aW;have aw:=O;have ax:=L;have ay:=J;have aA:=I;cases a8;replace I:=yh HB I;replace J:=yh HB J;replace L:=yh HB L;replace O:=yh HB O;have aB:=zq ap;have aX:=zq ao;clear ap ao;have aC:=zq ar;have aY:=zq aq;clear ar aq;have aD:=zq av;have aZ:=zq au;clear av au;replace aV:=eq_true aV;replace aW:=eq_true aW;refine Xej (n:=10) (S:=fun w'=>hdENEN w' (a5.add ((s).toNat*4)) (Xa l0 s) aE aF aG aH aI aJ (a6.add ((s).toNat*4)) (Xa l1 s) aK aL aM aN aO aP) (ds:=[]) #[Z,Z,Z,Z,Z,Z,Z,Z,Z,Z] J30 rfl rfl ⟨(yh HB ak),(yh HB aj),(yh HB ai),(yh HB ah),(yh HB aA),(yh HB ay),(yh HB ax),(yh HB aw)⟩ (fun hHeld=>?_);refine Xc8 deckleref10_Same.tab6 deckleref10_Same.bits6 (fun U a9=>?_);generalize wr.drew=w9 at HB al am an aB aC aD z B D G I J L O hHeld⊢;refine Xbf 0 17 #[Y,Z,Z,Z,Z,Z,Z,Z,Z,Z] U ?_;refine Xbf 1 18 #[Y,Y,Z,Z,Z,Z,Z,Z,Z,Z] U ?_;refine Xbf 2 19 #[Y,Y,Y,Z,Z,Z,Z,Z,Z,Z] U ?_;refine Xbf 4 21 #[Y,Y,Y,Z,Y,Z,Z,Z,Z,Z] U ?_;refine Xbf 5 22 #[Y,Y,Y,Z,Y,Y,Z,Z,Z,Z] U ?_;refine Xbf 6 23 #[Y,Y,Y,Z,Y,Y,Y,Z,Z,Z] U ?_;refine Xdx (i:=3) (N:=some 20) (v:=?_) (a':=?_) #[Y,Y,Y,Y,Y,Y,Y,Z,Z,Z] rfl rfl (Xcu U.out a9.out J30) (fun _ _ _ h=>h) (Or.inl ⟨Xbm,?_⟩) hHeld ?_ ?_;rotate_left
   ·rintro w' ⟨s0,s1,s2,s3,s4,s5,s6,s7⟩;go_simp;with_reducible rfl
   rotate_left
   ·exact pz1
   refine Xdx (i:=7) (N:=some 24) (v:=?_) (a':=?_) #[Y,Y,Y,Y,Y,Y,Y,Y,Z,Z] rfl rfl (Xcu U.out a9.out J30) (fun _ _ _ h=>h) (Or.inl ⟨Xbm,?_⟩) hHeld ?_ ?_;rotate_left
   ·rintro w' ⟨s0,s1,s2,s3,s4,s5,s6,s7⟩;go_simp;with_reducible rfl
   rotate_left
   ·exact pz1
   refine Xdf (i:=8) (N:=some 25) #[Y,Y,Y,Y,Y,Y,Y,Y,Y,Z] rfl rfl (Xci U.out J30) J18 (fun K hK=>?_);refine Xdo Tryz.func23 J30 rfl #[.agg #[.int .i64 ((Xa l0 s).f0),.slice aE ((Xa l0 s).f1).length aF,.slice aG ((Xa l0 s).f2).length aH,.slice aI ((Xa l0 s).f3).length aJ],.agg #[.int .i64 ((Xa l1 s).f0),.slice aK ((Xa l1 s).f1).length aL,.slice aM ((Xa l1 s).f2).length aN,.slice aO ((Xa l1 s).f3).length aP]] Xbm rfl rfl J6 ?_;with_reducible refine(Xak.calls k1 ((Xa l0 s).f0) _ _ ((Xa l0 s).f1) _ _ ((Xa l0 s).f2) _ _ ((Xa l0 s).f3) ((Xa l1 s).f0) _ _ ((Xa l1 s).f1) _ _ ((Xa l1 s).f2) _ _ ((Xa l1 s).f3) true _ ?side1 ?side2 ?side3 ?side4 ?side5 ?side6 ?side7 ?side8 ?side9 ?side10 ?side11 ?side12 A7.out).mono ?_
   (case side1=>exact zc (lp al.out HB.out))
   (case side2=>exact aS.out)
   (case side3=>exact zc (lp am.out HB.out))
   (case side4=>exact aT.out)
   (case side5=>exact zc (lp an.out HB.out))
   (case side6=>exact aU.out)
   (case side7=>exact zc (lp aB.out HB.out))
   (case side8=>exact aX.out)
   (case side9=>exact zc (lp aC.out HB.out))
   (case side10=>exact aY.out)
   (case side11=>exact zc (lp aD.out HB.out))
   (case side12=>exact aZ.out)
   rintro e bu ⟨rfl,hb⟩;refine⟨_,rfl,?_⟩;replace HB:=zq (Xb J0 hb);(try clear hb);(try clear hb2);(try clear hk);(try clear hi);refine hK.out _ _ ⟨(yh HB ak),(yh HB aj),(yh HB ai),(yh HB ah),(yh HB aA),(yh HB ay),(yh HB ax),(yh HB aw)⟩ (fun hHeld=>?_);clear hK K;refine Xa0 (a':=?_) ?_ ?_;rotate_left
   ·show Act.put _ (some 25) _=_;simp only[Act.put,List.setIfInBounds_toArray,List.set_cons_zero,List.set_cons_succ,Xau,Xax];rfl
   refine Xbf 9 26 #[Y,Y,Y,Y,Y,Y,Y,Y,Y,Y] U ?_;refine done_ (Xd0 U.out J30) ?_;try go_wp2
   go_roundg k1
   case measure=>have:=bj.out;omega
   case rel=>exact⟨(wrap64 (s+1)),J3,H',⟨by have:=bj.out;omega⟩,⟨J0⟩⟩
end Go.Proofs.YtfjhiiaahbjaiaaGreatDoor.HSystemTells
