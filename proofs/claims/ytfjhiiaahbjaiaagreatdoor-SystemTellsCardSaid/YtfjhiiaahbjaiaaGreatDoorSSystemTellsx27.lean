/- Words and walks, shortened by a program: what this claim's functions answer, and that other memory stays. -/
import Derived.Test.YtfjhiiaahbjaiaaGreatDoorSSystemTellsx0
import Derived.Test.YtfjhiiaahbjaiaaGreatDoorSSystemTellsx1
import Derived.Test.YtfjhiiaahbjaiaaGreatDoorSSystemTellsx16
import Derived.Test.YtfjhiiaahbjaiaaGreatDoorSSystemTellsx26
namespace Go.Proofs.YtfjhiiaahbjaiaaGreatDoor.HSystemTells
open Go.RowKit Go.Proofs.YtfjhiiaahbjaiaaGreatDoorW.PrintWords Go.Proofs.YtfjhiiaahbjaiaaGreatDoorW.PrintLast Go.Proofs.YtfjhiiaahbjaiaaGreatDoorW.PrintMore
attribute [local go_sem] Xb2 Xb0 Xcd Xcc Xbq Xbp Xb1 Xbz
set_option linter.unusedVariables false
set_option linter.unusedSimpArgs false
attribute [local go_sem high] eqA35
mutual
def Xi.j0:Nat→Int→Int→Int→Int→Option (Int)
 |0,_,_,_,_=>none
 |k+1,s,z,B,D=>(Xl.f k B D).bind fun G=>(if G=true then(Xi.j1 k s z B D)else(Xi.j1 k s z 0 0))
def Xi.j1:Nat→Int→Int→Int→Int→Option (Int)
 |0,_,_,_,_=>none
 |k+1,s,B,z,D=>if(s==z&&(B==D))=true then(some 0)else(if s<0 then(Xi.j2 k (decide (z<0)) s B z D)else(Xi.j2 k false s B z D))
def Xi.j2:Nat→Bool→Int→Int→Int→Int→Option (Int)
 |0,_,_,_,_,_=>none
 |k+1,H,s,B,z,D=>if H=true then((Xby.f k z D s B).bind fun G=>(if G=true then(some 1)else(some (-1))))else(if s<0 then(Xi.j3 k true s B z D)else(Xi.j3 k (decide (z<0)) s B z D))
def Xi.j3:Nat→Bool→Int→Int→Int→Int→Option (Int)
 |0,_,_,_,_,_=>none
 |k+1,G,z,B,s,D=>if G=true then(if s<0 then(some 1)else(some (-1)))else(if z=0 then(Xi.j4 k true z B s D)else(Xi.j4 k (s==0) z B s D))
def Xi.j4:Nat→Bool→Int→Int→Int→Int→Option (Int)
 |0,_,_,_,_,_=>none
 |k+1,H,z,B,s,D=>if H=true then(if s=0 then(some 1)else(some (-1)))else((Xby.f k z B s D).bind fun G=>(if G=true then(some 1)else(some (-1))))
end
def Xi.f(k:Nat)(s:Int)(z:Int)(B:Int)(D:Int):Option (Int):=(Xl.f k s z).bind fun G=>(if G=true then(Xi.j0 k s z B D)else(Xi.j0 k 0 0 B D))
set_option maxHeartbeats 8000000 in
set_option maxRecDepth 100000 in
theorem Xi.calls(k:Nat)(ac:Int)(ab:Int)(aj:Int)(ae:Int)(r:Int)(w:World)(h:Xi.f k ac ab aj ae=some r):
  Calls Tryz.prog 43 #[.agg #[.int .i64 ac,.int .i64 ab],.agg #[.int .i64 aj,.int .i64 ae]] w fun e w'=>e= .returned (.int .i64 r)∧Below w.heap.size w w':=by
 have bV:=Tryz.underlying35;have HB:=zq (Below.refl w.heap.size w);unfold Xi.f at h;have H:=h;clear h;refine yv H ?_;clear H;rintro aP A3 H;have aM:=zq H;clear H;go_enter Tryz.func43,Tryz.ntmps43
 go_upto_if 8 with(first|((with_reducible refine Xk (N:=2) rfl ?_);refine Xda ?hg (N:=2) ?hd (cs:=#[.int .i64 ac,.int .i64 ab]) (t:=35) ?hr ?_;(case hd=>rfl);(case hg=>rfl);(case hr=>first|(go_simp;done)|(go_simp;rfl));intro U hg w5 hbox hb;have al:=zq (Xb J0 hb);have am:=zq (hbox);have an:=zq ((J20:w.heap.size≤U));have aD:=zq ((J20:w.heap.size≤U));clear HB;have HB:=al;have z:=am;have aZ:=an;have L:=aD;clear al am an aD;clear hb hbox hg)|((with_reducible refine Xk (N:=3) rfl ?_);refine Xda ?hg (N:=3) ?hd (cs:=#[.int .i64 aj,.int .i64 ae]) (t:=35) ?hr ?_;(case hd=>rfl);(case hg=>rfl);(case hr=>first|(go_simp;done)|(go_simp;rfl));intro aa hg w6 hbox hb;have al:=zq (Xg (zk z.out) hb);have am:=zq (Xb (zs1 L.out) hb);have an:=zq (hbox);have aD:=zq ((by rw[hg];exact(Xe (zs1 L.out)):w.heap.size≤aa));have aQ:=zq ((by rw[hg];exact(Xe (zs1 L.out)):w.heap.size≤aa));have aR:=zq ((by rw[hg];exact Nat.ne_of_lt (Xbj (g:=U) (o:=.cells #[.int .i64 ac,.int .i64 ab] 35 (0,0)) (zk z.out)):U≠aa));have aS:=zq ((by rw[hg];exact Nat.ne_of_gt (Xbj (g:=U) (o:=.cells #[.int .i64 ac,.int .i64 ab] 35 (0,0)) (zk z.out)):aa≠U));clear z;clear HB;have z:=al;have HB:=am;have K:=an;have a5:=aD;have O:=aQ;have D:=aR;have G:=aS;clear al am an aD aQ aR aS;clear hb hbox hg;have bW:=D.out;have bX:=G.out;have af:w6.cell? ⟨U,0,none⟩=some (.int .i64 ac):=(Xac z.out 0).trans rfl;have ag:w6.cell? ⟨U,1,none⟩=some (.int .i64 ab):=(Xac z.out 1).trans rfl;have ah:=Xbb z.out 0;have ai:=Xbb z.out 1)|((with_reducible refine Xh (f:=62) rfl ?_);refine gL Tryz.func62 (Xl.calls k ac ab aP _ A3.out) ?_;rintro e w9 ⟨rfl,hb⟩;refine⟨_,rfl,?_⟩;have al:=zq (Xg (zk z.out) hb);have am:=zq (Xg (zk K.out) hb);have an:=zq (Xb (zs2 L.out O.out) hb);clear z;clear K;clear HB;have z:=al;have K:=am;have HB:=an;clear al am an;(try clear hb)))
 (try simp only[Act.put,List.setIfInBounds_toArray,List.set_cons_zero,List.set_cons_succ]);go_cut [] (fun wc=>∃(kq:Nat)(I:Int)(J:Int),Aside0 (Xi.j0 kq I J aj ae=some r)∧Aside0 (kq≤k)∧Aside0 (wc.heap[U]?=some (.cells #[.int .i64 I,.int .i64 J] 35 (0,0)))∧Aside0 (wc.heap[aa]?=some (.cells #[.int .i64 aj,.int .i64 ae] 35 (0,0)))∧Aside0 (Below w.heap.size w wc));case first=>
  have H:=aM.out;clear aM;refine yC H ?_ ?_<;>clear H<;>rintro rfl H
  ·have H':=zq H;clear H;go_wp2;go_meet;case rel=>exact⟨_,(ac),(ab),H',⟨J42⟩,⟨J10⟩,⟨J67⟩,⟨J14⟩⟩
  have H':=zq H;clear H;have a6:=D.out;have a7:=G.out;have b6:=cz2 z.out;go_wp2;go_meet;case rel=>exact⟨_,(0),(0),H',⟨J42⟩,⟨by(with_reducible repeat(first|refine Xd ?_ _|refine Xf ?_|refine Xc ?_ _));refine Xp (cs:=#[.int .i64 0,.int .i64 ab]) ?_ 1 _ rfl;(with_reducible repeat(first|refine Xd ?_ _|refine Xf ?_|refine Xc ?_ _));refine Xp (cs:=#[.int .i64 ac,.int .i64 ab]) ?_ 0 _ rfl;(with_reducible repeat(first|refine Xd ?_ _|refine Xf ?_|refine Xc ?_ _));exact z.out⟩,⟨by(with_reducible repeat(first|refine Xd ?_ _|refine Xf ?_|refine Xc ?_ _));refine X1 ?_ G.out _;(with_reducible repeat(first|refine Xd ?_ _|refine Xf ?_|refine Xc ?_ _));refine X1 ?_ G.out _;(with_reducible repeat(first|refine Xd ?_ _|refine Xf ?_|refine Xc ?_ _));exact K.out⟩,⟨J14⟩⟩
 case rest=>
  clear aM;try clear af
  try clear ag
  try clear ah
  try clear ai
  obtain⟨kq,I,J,HA,aB,z,K,HB⟩:=hcut;cases kq with
  |zero=>exact absurd HA.out (by simp[Xi.j0])
  |succ aT=>
   have H:=HA.out;clear HA;simp only[Xi.j0]at H;refine yv H ?_;clear H;rintro aU a8 H;have aE:=zq H;clear H;have a9:=G.out;have ba:=D.out;have aJ:=cz2 K.out
   go_upto_if 12 with(first|((with_reducible refine Xh (f:=62) rfl ?_);refine gL Tryz.func62 (Xl.calls aT aj ae aU _ a8.out) ?_;rintro e b7 ⟨rfl,hb⟩;refine⟨_,rfl,?_⟩;have al:=zq (Xg (zk z.out) hb);have am:=zq (Xg (zk K.out) hb);have an:=zq (Xb (zs2 L.out O.out) hb);clear z;clear K;clear HB;have z:=al;have K:=am;have HB:=an;clear al am an;(try clear hb)))
   (try simp only[Act.put,List.setIfInBounds_toArray,List.set_cons_zero,List.set_cons_succ]);go_cut [] (fun wc=>∃(kq:Nat)(s:Int)(B:Int),Aside0 (Xi.j1 kq I J s B=some r)∧Aside0 (kq≤aT)∧Aside0 (wc.heap[U]?=some (.cells #[.int .i64 I,.int .i64 J] 35 (0,0)))∧Aside0 (wc.heap[aa]?=some (.cells #[.int .i64 s,.int .i64 B] 35 (0,0)))∧Aside0 (Below w.heap.size w wc));case first=>
    have H:=aE.out;clear aE;refine yC H ?_ ?_<;>clear H<;>rintro rfl H
    ·have H':=zq H;clear H;go_wp2;go_meet;case rel=>exact⟨_,(aj),(ae),H',⟨by have:=aB.out;first|omega|exact Nat.le_refl _⟩,⟨J10⟩,⟨J67⟩,⟨J14⟩⟩
    have H':=zq H;clear H;have bb:=G.out;have bc:=D.out;have b8:=cz2 K.out;go_wp2;go_meet;case rel=>exact⟨_,(0),(0),H',⟨by have:=aB.out;first|omega|exact Nat.le_refl _⟩,⟨by(with_reducible repeat(first|refine Xd ?_ _|refine Xf ?_|refine Xc ?_ _));refine X1 ?_ D.out _;(with_reducible repeat(first|refine Xd ?_ _|refine Xf ?_|refine Xc ?_ _));refine X1 ?_ D.out _;(with_reducible repeat(first|refine Xd ?_ _|refine Xf ?_|refine Xc ?_ _));exact z.out⟩,⟨by(with_reducible repeat(first|refine Xd ?_ _|refine Xf ?_|refine Xc ?_ _));refine Xp (cs:=#[.int .i64 0,.int .i64 ae]) ?_ 1 _ rfl;(with_reducible repeat(first|refine Xd ?_ _|refine Xf ?_|refine Xc ?_ _));refine Xp (cs:=#[.int .i64 aj,.int .i64 ae]) ?_ 0 _ rfl;(with_reducible repeat(first|refine Xd ?_ _|refine Xf ?_|refine Xc ?_ _));exact K.out⟩,⟨J14⟩⟩
   case rest=>
    clear aE;try clear aJ
    try clear af
    try clear ag
    try clear ah
    try clear ai
    obtain⟨kq,s,B,HA,ao,z,K,HB⟩:=hcut;cases kq with
    |zero=>exact absurd HA.out (by simp[Xi.j1])
    |succ aV=>
     have H:=HA.out;clear HA;simp only[Xi.j1]at H;refine yu H ?_ ?_<;>clear H<;>rintro ak H
     ·have ap:(I==s&&(J==B))=true:=ak
      (try(have aq:decide (I=s&&(J==B))=true:=by simpa using ak))
      (try(have ar:(I==s&&(J==B))=true:=by simpa using ak))
      clear ak;obtain rfl:=yo H;have bd:=D.out;have be:=G.out;have b9:=cz2 z.out;have ca:=cz2 K.out;go_wp2;go_ret;exact⟨J1,J14⟩
     have ap:(I==s&&(J==B))=false:=by simpa using ak
     (try(have aq:decide (I=s&&(J==B))=false:=by simpa using ak))
     (try(have ar:(I==s&&(J==B))=false:=by simpa using ak))
     (try(have bf:¬(I=s&&(J==B)):=by simpa using ak))
     clear ak;have aF:=zq H;clear H;have bg:=D.out;have bh:=G.out;have aN:=cz2 z.out;have aO:=cz2 K.out;go_upto_region 9 with(fail);go_cut [20] (fun bi wc=>∃(kq:Nat)(au:Bool),bi= .bool au∧Aside0 (Xi.j2 kq au I J s B=some r)∧Aside0 (kq≤aV)∧Aside0 (wc.heap[U]?=some (.cells #[.int .i64 I,.int .i64 J] 35 (0,0)))∧Aside0 (wc.heap[aa]?=some (.cells #[.int .i64 s,.int .i64 B] 35 (0,0)))∧Aside0 (Below w.heap.size w wc));case first=>
      have H:=aF.out;clear aF;refine yd H ?_ ?_<;>clear H<;>rintro av H
      ·(first|rw[av]|(simp only[Xau,Xax];rw[av])|skip);have H':=zq H;clear H;have bj:=D.out;have bk:=G.out;have cb:=cz2 z.out;go_wp2;go_meet;case rel=>exact⟨_,(false),J3,H',⟨by have:=aB.out;have:=ao.out;first|omega|exact Nat.le_refl _⟩,⟨J10⟩,⟨J67⟩,⟨J14⟩⟩
      (first|rw[av]|(simp only[Xau,Xax];rw[av])|skip);have H':=zq H;clear H;have bl:=D.out;have bm:=G.out;have cc:=cz2 z.out;have cd:=cz2 K.out;go_wp2;go_meet;case rel=>exact⟨_,(decide (s<0)),J3,H',⟨by have:=aB.out;have:=ao.out;first|omega|exact Nat.le_refl _⟩,⟨J10⟩,⟨J67⟩,⟨J14⟩⟩
     case rest=>
      clear aF;try clear ak
      try clear ap
      try clear aq
      try clear ar
      try clear aJ
      try clear aN
      try clear aO
      try clear af
      try clear ag
      try clear ah
      try clear ai
      obtain⟨kq,au,rfl,HA,aC,z,K,HB⟩:=hcut;cases kq with
      |zero=>exact absurd HA.out (by simp[Xi.j2])
      |succ aG=>
       have H:=HA.out;clear HA;simp only[Xi.j2]at H;refine yC H ?_ ?_<;>clear H<;>rintro rfl H
       ·refine yv H ?_;clear H;rintro bY aW H;refine yC H ?_ ?_<;>clear H<;>rintro rfl H
        ·obtain rfl:=yo H;have bn:=G.out;have bo:=D.out;have cf:=cz2 K.out;have cg:=cz2 z.out;go_wp2_with(first|((with_reducible refine Xh (f:=63) rfl ?_);refine gL Tryz.func63 (Xby.calls aG s B I J true _ aW.out) ?_;rintro e ch ⟨rfl,hb⟩;refine⟨_,rfl,?_⟩;replace z:=zq (Xg (zk z.out) hb);replace K:=zq (Xg (zk K.out) hb);replace HB:=zq (Xb (zs2 L.out O.out) hb);(try clear hb)));go_ret;exact⟨J1,J14⟩
        ·obtain rfl:=yo H;have bp:=G.out;have bq:=D.out;have ci:=cz2 K.out;have cj:=cz2 z.out;go_wp2_with(first|((with_reducible refine Xh (f:=63) rfl ?_);refine gL Tryz.func63 (Xby.calls aG s B I J false _ aW.out) ?_;rintro e ck ⟨rfl,hb⟩;refine⟨_,rfl,?_⟩;replace z:=zq (Xg (zk z.out) hb);replace K:=zq (Xg (zk K.out) hb);replace HB:=zq (Xb (zs2 L.out O.out) hb);(try clear hb)));go_ret;exact⟨J1,J14⟩
       have aH:=zq H;clear H;go_upto_region 11 with(fail);go_cut [32] (fun br wc=>∃(kq:Nat)(aw:Bool),br= .bool aw∧Aside0 (Xi.j3 kq aw I J s B=some r)∧Aside0 (kq≤aG)∧Aside0 (wc.heap[U]?=some (.cells #[.int .i64 I,.int .i64 J] 35 (0,0)))∧Aside0 (wc.heap[aa]?=some (.cells #[.int .i64 s,.int .i64 B] 35 (0,0)))∧Aside0 (Below w.heap.size w wc));case first=>
        have H:=aH.out;clear aH;refine yD H ?_ ?_<;>clear H<;>rintro ax H
        ·(first|rw[ax]|(simp only[Xau,Xax];rw[ax])|skip);have H':=zq H;clear H;have bs:=D.out;have bu:=G.out;have cl:=cz2 z.out;go_wp2;go_meet;case rel=>exact⟨_,(true),J3,H',⟨by have:=aB.out;have:=ao.out;have:=aC.out;first|omega|exact Nat.le_refl _⟩,⟨J10⟩,⟨J67⟩,⟨J14⟩⟩
        (first|rw[ax]|(simp only[Xau,Xax];rw[ax])|skip);have H':=zq H;clear H;have bv:=D.out;have bw:=G.out;have cm:=cz2 z.out;have cn:=cz2 K.out;go_wp2;go_meet;case rel=>exact⟨_,(decide (s<0)),J3,H',⟨by have:=aB.out;have:=ao.out;have:=aC.out;first|omega|exact Nat.le_refl _⟩,⟨J10⟩,⟨J67⟩,⟨J14⟩⟩
       case rest=>
        clear aH;try clear ak
        try clear ap
        try clear aq
        try clear ar
        try clear aJ
        try clear aN
        try clear aO
        try clear af
        try clear ag
        try clear ah
        try clear ai
        obtain⟨kq,aw,rfl,HA,aK,z,K,HB⟩:=hcut;cases kq with
        |zero=>exact absurd HA.out (by simp[Xi.j3])
        |succ aX=>
         have H:=HA.out;clear HA;simp only[Xi.j3]at H;refine yC H ?_ ?_<;>clear H<;>rintro rfl H
         ·refine yD H ?_ ?_<;>clear H<;>rintro bx H
          ·obtain rfl:=yo H;have bz:=G.out;have bA:=D.out;have co:=cz2 K.out;go_wp2;go_ret;exact⟨J1,J14⟩
          ·obtain rfl:=yo H;have bB:=G.out;have bC:=D.out;have cp:=cz2 K.out;go_wp2;go_ret;exact⟨J1,J14⟩
         have aI:=zq H;clear H;go_upto_region 13 with(fail);go_cut [44] (fun bD wc=>∃(kq:Nat)(ay:Bool),bD= .bool ay∧Aside0 (Xi.j4 kq ay I J s B=some r)∧Aside0 (kq≤aX)∧Aside0 (wc.heap[U]?=some (.cells #[.int .i64 I,.int .i64 J] 35 (0,0)))∧Aside0 (wc.heap[aa]?=some (.cells #[.int .i64 s,.int .i64 B] 35 (0,0)))∧Aside0 (Below w.heap.size w wc));case first=>
          have H:=aI.out;clear aI;refine yF H ?_ ?_<;>clear H<;>rintro⟨aA,bE,bF⟩ H
          ·clear bF;(first|rw[aA]|(simp only[Xau,Xax];rw[aA])|skip);have H':=zq H;clear H;have bG:=D.out;have bH:=G.out;have cq:=cz2 z.out;go_wp2;go_meet;case rel=>exact⟨_,(true),J3,H',⟨by have:=aB.out;have:=ao.out;have:=aC.out;have:=aK.out;first|omega|exact Nat.le_refl _⟩,⟨J10⟩,⟨J67⟩,⟨J14⟩⟩
          (first|rw[aA]|(simp only[Xau,Xax];rw[aA])|skip);have H':=zq H;clear H;have bI:=D.out;have bJ:=G.out;have cr:=cz2 z.out;have ct:=cz2 K.out;go_wp2;go_meet;case rel=>exact⟨_,((s==0)),J3,H',⟨by have:=aB.out;have:=ao.out;have:=aC.out;have:=aK.out;first|omega|exact Nat.le_refl _⟩,⟨J10⟩,⟨J67⟩,⟨J14⟩⟩
         case rest=>
          clear aI;try clear ak
          try clear ap
          try clear aq
          try clear ar
          try clear aJ
          try clear aN
          try clear aO
          try clear af
          try clear ag
          try clear ah
          try clear ai
          obtain⟨kq,ay,rfl,HA,bZ,z,K,HB⟩:=hcut;cases kq with
          |zero=>exact absurd HA.out (by simp[Xi.j4])
          |succ aL=>
           have H:=HA.out;clear HA;simp only[Xi.j4]at H;refine yC H ?_ ?_<;>clear H<;>rintro rfl H
           ·refine yF H ?_ ?_<;>clear H<;>rintro⟨bK,bL,bM⟩ H
            ·clear bM;obtain rfl:=yo H;have bN:=G.out;have bO:=D.out;have cu:=cz2 K.out;go_wp2;go_ret;exact⟨J1,J14⟩
            ·obtain rfl:=yo H;have bP:=G.out;have bQ:=D.out;have cv:=cz2 K.out;go_wp2;go_ret;exact⟨J1,J14⟩
           refine yv H ?_;clear H;rintro b5 aY H;refine yC H ?_ ?_<;>clear H<;>rintro rfl H
           ·obtain rfl:=yo H;have bR:=D.out;have bS:=G.out;have cw:=cz2 z.out;have cx:=cz2 K.out;go_wp2_with(first|((with_reducible refine Xh (f:=63) rfl ?_);refine gL Tryz.func63 (Xby.calls aL I J s B true _ aY.out) ?_;rintro e cy ⟨rfl,hb⟩;refine⟨_,rfl,?_⟩;replace z:=zq (Xg (zk z.out) hb);replace K:=zq (Xg (zk K.out) hb);replace HB:=zq (Xb (zs2 L.out O.out) hb);(try clear hb)));go_ret;exact⟨J1,J14⟩
           obtain rfl:=yo H;have bT:=D.out;have bU:=G.out;have cz:=cz2 z.out;have cA:=cz2 K.out;go_wp2_with(first|((with_reducible refine Xh (f:=63) rfl ?_);refine gL Tryz.func63 (Xby.calls aL I J s B false _ aY.out) ?_;rintro e cB ⟨rfl,hb⟩;refine⟨_,rfl,?_⟩;replace HB:=zq (Xb (zs2 L.out O.out) hb);(try clear hb)));go_ret;exact⟨J1,J14⟩
end Go.Proofs.YtfjhiiaahbjaiaaGreatDoor.HSystemTells
