/- Parts: LetC InhH LetD -/
import Derived.Test.YtbhikkgpcmkonaaGreatDoorVa0
import Derived.Test.YtbhikkgpcmkonaaGreatDoorVa17
import Derived.Test.YtbhikkgpcmkonaaGreatDoorVa19
import Derived.Test.YtbhikkgpcmkonaaGreatDoorVa3
import Derived.Test.YtbhikkgpcmkonaaGreatDoorVa11
set_option maxRecDepth 100000
set_option maxHeartbeats 12800000
namespace Go.Proofs.YtbhikkgpcmkonaaGreatDoor
open Go.RowKit
structure nH where
 t:Wj
 A:Option Addr
 m:Nat
 k:Nat
def Yr (x:nH):List Value:=[.int .u64 (x.t.id:Int),.bool x.t.jH,.slice x.A x.m x.k]
structure nH.At (x:nH) (w:World):Prop where
 arr:bW w 2 dW x.A x.m x.t.fs
 le:x.m≤1000
 txt:∀f∈x.t.fs,f.v.length≤1000000
theorem nH.At.keep {x:nH} {w w':World} (h:x.At w) (hg:ah w w'):x.At w':=⟨h.arr.keep hg,h.le,h.txt⟩
structure fG where
 rc:List UInt8
 gr:List UInt8
 n:Int
 tm:Int
 fH:List bK
 bA:Option Addr
 bm:Nat
 bk:Nat
 ts:List nH
 tA:Option Addr
 tl:Nat
 tk:Nat
def fG.yc (x:fG):Nj:=⟨x.rc,x.gr,x.n,x.tm,x.fH,x.ts.map (·.t)⟩
def WI (x:fG):Value:=.agg #[.string ⟨x.rc.toArray⟩,.string ⟨x.gr.toArray⟩,.int .i64 x.n,.int .i64 x.tm,.slice x.bA x.bm x.bk,.slice x.tA x.tl x.tk]
def jY (x:fG):List Value:=[.string ⟨x.rc.toArray⟩,.string ⟨x.gr.toArray⟩,.int .i64 x.n,.int .i64 x.tm,.slice x.bA x.bm x.bk,.slice x.tA x.tl x.tk]
structure fG.At (x:fG) (w:World):Prop where
 fH:bW w 2 dW x.bA x.bm x.fH
 ble:x.bm≤1000
 RD:∀f∈x.fH,f.v.length≤1000000
 ts:bW w 3 Yr x.tA x.tl x.ts
 tle:x.tl≤1000
 at_:∀y∈x.ts,y.At w
theorem fG.At.keep {x:fG} {w w':World} (h:x.At w) (hg:ah w w'):x.At w':=⟨h.fH.keep hg,h.ble,h.RD,h.ts.keep hg,h.tle,fun y hy=>(h.at_ y hy).keep hg⟩
theorem adl:∀{l:List Wj},VO l = true→∀{j:Nat} {e f:Wj},l[j]? = some e→l[j + 1]? = some f→e.id<f.id
 | [],_,_,_,_,h,_=>by simp at h
 | [_],_,_,_,_,_,h=>by simp at h
 | a ::b ::l,hl,j,e,f,he,hf=>by
  have h2:a.id<b.id∧VO (b ::l)=true:=by simpa[VO] using hl
  cases j with
  | zero=>simp at he hf;subst he hf;exact h2.1
  | succ j=>exact adl h2.2 (by simpa using he) (by simpa using hf)
theorem adk:∀{l:List Wj},(∀(j:Nat) (e f:Wj),l[j]? = some e→l[j + 1]? = some f→e.id<f.id)→VO l = true
 | [],_=>rfl
 | [_],_=>rfl
 | a ::b ::l,h=>by
  have h1:=h 0 a b rfl rfl;have h2:=adk (l:=b ::l) (fun j e f he hf=>h (j + 1) e f (by simpa using he) (by simpa using hf));show (decide (a.id<b.id)&&VO (b ::l))=true
  rw[h2];simp[h1]
def Hu (l:List Wj):Bool:=(l.all fun t=>fieldsU t.fs)&&VO l
theorem adI {l:List Wj} {k:Nat} {t:Wj} (ht:l[k]? = some t) (h:fieldsU t.fs=false):Hu l = false:=by
 unfold Hu;have:(l.all fun t=>fieldsU t.fs)=false:=by
  rw[List.all_eq_false];exact⟨t,List.mem_of_getElem? ht,by rw[h];simp⟩
 rw[this];rfl
theorem adJ {l:List Wj} {k:Nat} {s t:Wj} (hs:l[k]? = some s) (ht:l[k+1]? = some t) (h:¬s.id<t.id):Hu l = false:=by
 unfold Hu;have:VO l = false:=by
  rw[←Bool.not_eq_true];exact fun hh=>h (adl hh hs ht)
 rw[this];simp
def Am (l:List Wj) (k:Nat):Prop:=(∀j t,j < k→l[j]? = some t→fieldsU t.fs=true)∧(∀j s t,j + 1<k→l[j]? = some s→l[j + 1]? = some t→s.id<t.id)
theorem Am.succ {l:List Wj} {k:Nat} {t:Wj} (h:Am l k) (ht:l[k]? = some t) (hb:fieldsU t.fs=true) (ha:∀s,0<k→l[k-1]? = some s→s.id<t.id):Am l (k+1):=by
 refine⟨fun j g hj hg=> ?_,fun j e g hj he hg=> ?_⟩
 ·by_cases hjk:j = k
  ·subst hjk;rw[ht] at hg;rw[←Option.some.inj hg];exact hb
  ·exact h.1 j g ω hg
 ·by_cases hjk:j + 1=k
  ·subst hjk;rw[ht] at hg;rw[←Option.some.inj hg];exact ha e ω (by simpa using he)
  ·exact h.2 j e g ω he hg
theorem Am.all {l:List Wj} (h:Am l l.length):Hu l = true:=by
 unfold Hu;rw[Bool.and_eq_true,List.all_eq_true];refine⟨fun t ht=> ?_,adk fun j s t hs ht=>h.2 j s t (List.getElem?_eq_some_iff.1 ht).1 hs ht⟩;obtain⟨j,hj⟩:=List.getElem?_of_mem ht;exact h.1 j t (List.getElem?_eq_some_iff.1 hj).1 hj
theorem UR (x:Nj):t_ x = (Og x.group&&iF x.rc&&rQ x.number&&rQ x.time&&fieldsU x.fH&&decide (x.Pm.length≤20)&&Hu x.Pm):=rfl
theorem aaM {x:fG} (w:World) (hT:oz w) (hx:x.At w) (hgr:x.gr.length≤1000000) :
 Calls Tryz.prog 83 #[WI x] w fun e w'=>e =.returned (.bool (t_ x.yc))∧ah w w':=by
 have cK:=ζ (fun W (_:ah w W)=>aav x.gr hgr W);have cN:=ζ (fun W (_:ah w W)=>uF x.rc W);have cT1:=ζ (fun W (_:ah w W)=>WT x.n W);have cT2:=ζ (fun W (_:ah w W)=>WT x.tm W);have cF:=ζ (fun W (hW:ah w W)=>Kw (c:=x.bk) W (hT.grows hW) (hx.fH.keep hW) hx.ble hx.RD);have cT:=ζ (fun y (hy:y∈x.ts) W (hW:ah w W)=>Kw (c:=y.k) W (hT.grows hW) ((hx.at_ y hy).arr.keep hW) (hx.at_ y hy).le (hx.at_ y hy).txt);have hts:=ζ hx.ts;have lJ:=hx.ts.1;have htl:=hx.tle;have hR:t_ x.yc=(Og x.gr&&iF x.rc&&rQ x.n &&rQ x.tm&&fieldsU x.fH&&decide (x.tl≤20)&&Hu (x.ts.map (·.t))):=by
  rw[UR];unfold fG.yc;simp only[List.length_map,lJ]
 rw[hR];have qP:=ζ (fun k y (h1:x.ts[k]? = some y) (h:fieldsU y.t.fs=false)=>adI (l:=x.ts.map (·.t)) (k:=k) (t:=y.t) (by rw[List.getElem?_map,h1];rfl) h);have azV:=ζ (fun k y z (h1:x.ts[k]? = some y) (h2:x.ts[k+1]? = some z) (h:¬y.t.id<z.t.id)=>adJ (l:=x.ts.map (·.t)) (k:=k) (s:=y.t) (t:=z.t) (by rw[List.getElem?_map,h1];rfl) (by rw[List.getElem?_map,h2];rfl) h);have hall:=ζ (fun (h:Am (x.ts.map (·.t)) x.tl)=>Am.all (l:=x.ts.map (·.t)) (by rw[List.length_map,lJ];exact h));have ayK:=ζ (fun k y (h:Am (x.ts.map (·.t)) k) (h1:x.ts[k]? = some y) hb ha=>h.succ (t:=y.t) (by rw[List.getElem?_map,h1];rfl) hb ha);generalize Hu (x.ts.map (·.t))=TB at *
 generalize Og x.gr=KB at *
 generalize iF x.rc=NB at *
 generalize rQ x.n = T1 at *
 generalize rQ x.tm=T2 at *
 generalize fieldsU x.fH=FB at *
 clear hR hT hx hgr;obtain⟨rc,gr,n,tm,fH,bA,bm,bk,ts,tA,tl,tk⟩:=x;unfold WI;simp only at *
 go_enter Tryz.func83,Tryz.ntmps83
 go_wp2_with fail;have bX:=aF.new w 64 #[.string ⟨rc.toArray⟩,.string ⟨gr.toArray⟩,.int .i64 n,.int .i64 tm,.slice bA bm bk,.slice tA tl tk];have Vw:ah w (w.alloc (.cells #[.string ⟨rc.toArray⟩,.string ⟨gr.toArray⟩,.int .i64 n,.int .i64 tm,.slice bA bm bk,.slice tA tl tk] 64)):=(ah.refl w).alloc _;refine (cK.out _ Vw).mono ?_;rintro e w1 ⟨N,rfl,hb1⟩;have bX1:=bX.grows hb1;have fF:=ah.trans Vw hb1;have x0:=bX1.c0;have x1:=bX1.c1;have x2:=bX1.c2;have x3:=bX1.c3;have x4:=bX1.c4;have x5:=bX1.c5;have xl:=bX1.lt;clear hb1 Vw bX;cases KB with
 | false=>
  go_wp2;go_ret;exact⟨rfl,fF⟩
 | true=>
  go_wp2_with fail;refine (cN.out _ fF).mono ?_;rintro e w2 ⟨rfl,hb2⟩;have bX2:=bX1.grows hb2;have fQ:=ah.trans fF hb2;have x0:=bX2.c0;have x1:=bX2.c1;have x2:=bX2.c2;have x3:=bX2.c3;have x4:=bX2.c4;have x5:=bX2.c5;have xl:=bX2.lt;clear hb2 fF bX1;cases NB with
  | false=>
   go_wp2;go_ret;exact⟨rfl,fQ⟩
  | true=>
   go_wp2_with fail;refine (cT1.out _ fQ).mono ?_;rintro e w3 ⟨rfl,hb3⟩;have bX3:=bX2.grows hb3;have qo:=ah.trans fQ hb3;have x0:=bX3.c0;have x1:=bX3.c1;have x2:=bX3.c2;have x3:=bX3.c3;have x4:=bX3.c4;have x5:=bX3.c5;have xl:=bX3.lt;clear hb3 fQ bX2;cases T1 with
   | false=>
    go_wp2;go_ret;exact⟨rfl,qo⟩
   | true=>
    go_wp2_with fail;refine (cT2.out _ qo).mono ?_;rintro e w4 ⟨rfl,hb4⟩;have YN:=bX3.grows hb4;have rH:=ah.trans qo hb4;have x0:=YN.c0;have x1:=YN.c1;have x2:=YN.c2;have x3:=YN.c3;have x4:=YN.c4;have x5:=YN.c5;have xl:=YN.lt;clear hb4 qo bX3;cases T2 with
    | false=>
     go_wp2;go_ret;exact⟨rfl,rH⟩
    | true=>
     go_wp2_with fail;refine (cF.out _ rH).mono ?_;rintro e w5 ⟨rfl,fM⟩;have TY:=YN.grows fM;have oL:=ah.trans rH fM;have x0:=TY.c0;have x1:=TY.c1;have x2:=TY.c2;have x3:=TY.c3;have x4:=TY.c4;have x5:=TY.c5;have xl:=TY.lt;clear fM rH YN;cases FB with
     | false=>
      go_wp2;go_ret;exact⟨rfl,oL⟩
     | true=>
      by_cases h20:tl≤20
      ·have aAM:¬(20:Int)<(tl:Int):=ω;clear cK cN cT1 cT2 cF;clear x0 x1 x2 x3 x4;replace oL:=ζ oL;replace TY:=ζ TY;go_wp2;go_loopw [5,6,48] (fun _ _ i wr=>∃k:Nat,k≤tl∧i =.int .i64 (k:Int)∧Hid (Am (ts.map (·.t)) k)∧Hid (ah w5 wr)) (fun _ _ i _=>tl-(intOf i).toNat)
       case atStart=>exact⟨0,ω,rfl,ζ ⟨fun _ _ h=>absurd h ω,fun _ _ _ h=>absurd h ω⟩,ah.refl _⟩
       case round=>
        obtain⟨k,hk,rfl,mP,Zh⟩:=hrel;by_cases wB:k<tl
        ·obtain⟨bb,off,y,hyA,GV,hy,hcell⟩:=(hts.o.keep (oL.o.trans Zh.o)).at_ wB;subst hyA;have c0:wr.cell? ⟨bb,off+k*3,none⟩=some (.int .u64 (y.t.id:Int)):=hcell 0 _ rfl;have c1:wr.cell? ⟨bb,off+k*3+1,none⟩=some (.bool y.t.jH):=hcell 1 _ rfl;have c2:wr.cell? ⟨bb,off+k*3+2,none⟩=some (.slice y.A y.m y.k):=hcell 2 _ rfl;have kY:(k:Int)<(tl:Int):=ω;have yM:=List.mem_of_getElem? hy;have hXr:=TY.out.grows Zh.o;have x5':=hXr.c5;have xlr:=hXr.lt;have Yb:=ζ (Zh.o.alloc (.cells #[.int .u64 (y.t.id:Int),.bool y.t.jH,.slice y.A y.m y.k] 65));have cTy:=ζ (fun V (hV:ah (wr.alloc (.cells #[.int .u64 (y.t.id:Int),.bool y.t.jH,.slice y.A y.m y.k] 65)) V)=>cT.out y yM V ((oL.o.trans Yb.o).trans hV));have hb1:=qP.o k y hy;have hs1:=ayK.o k y mP.o hy;have eG:=ah.refl (wr.alloc (.cells #[.int .u64 (y.t.id:Int),.bool y.t.jH,.slice y.A y.m y.k] 65));generalize hFU:fieldsU y.t.fs=FU at *
         clear hXr hcell;cases FU with
         | false=>
          have hTB:Hid (TB=false):=ζ (hb1 rfl);clear hb1 hs1 hy;go_wp2_with fail;refine aG κ ?_;refine rK (.range 20) 0 ?_;iterate 2 refine aC ?_
          refine aY (.bool false) rfl χ (fun wq eG=> ?_) ?_
          ·obtain⟨nR,mY⟩:=bQ eG;go_simp;exact Calls.mono (cTy.out wq eG) (fun e w'' h=>h)
          go_simp;iterate 17 refine aC ?_
          refine aB ?_;refine aJ κ (fun wN hN hS=> ?_);have hGN:=oL.o.trans (Yb.o.trans hN);go_wp2;go_ret;exact⟨aP (by simp[hTB.o]),hGN⟩
         | true=>
          by_cases KH:0<k
          ·obtain⟨j,rfl⟩:∃j,k=j + 1:=⟨k-1,ω⟩;obtain⟨bb',kJ,z,hA',hse,hz,F6⟩:=(hts.o.keep (oL.o.trans Zh.o)).at_ (show j < tl by omega);injection hA' with hA'
           injection hA' with Zk hA2
           subst Zk hA2;have d0:wr.cell? ⟨bb,off+j * 3,none⟩=some (.int .u64 (z.t.id:Int)):=F6 0 _ rfl;have i0:(0:Int)<((j + 1:Nat):Int):=ω;have i1:((j + 1:Nat):Int)-1=(j:Int):=ω;have i2:(j:Int)<(tl:Int):=ω;by_cases hid:z.t.id<y.t.id
           ·have amH:¬(y.t.id:Int)≤(z.t.id:Int):=ω;have apO:=ζ (hs1 rfl (fun s _ hs=>by
             rw[show j + 1-1=j by omega,List.getElem?_map,hz] at hs;injection hs with hs
             rw[←hs];exact hid))
            clear hb1 hs1 hy hz F6 hid;go_wp2_with fail;refine aG κ ?_;refine rK (.range 20) 0 ?_;iterate 2 refine aC ?_
            refine aY (.bool true) rfl χ (fun wq eG=> ?_) ?_
            ·obtain⟨nR,mY⟩:=bQ eG;go_simp;exact Calls.mono (cTy.out wq eG) (fun e w'' h=>h)
            go_simp;iterate 17 refine aC ?_
            refine aB ?_;refine aJ κ (fun wN hN hS=> ?_);have hGN:=ζ (Yb.o.trans hN);go_wp2;go_roundw
            case rel=>exact⟨j + 1+1,ω,ν,apO,hGN⟩
            case measure=>exact ψ
           ·have amH:(y.t.id:Int)≤(z.t.id:Int):=ω;have hTB:Hid (TB=false):=ζ (azV.o j z y hz hy hid);clear hb1 hs1 hy hz F6 hid;go_wp2_with fail;refine aG κ ?_;refine rK (.range 20) 0 ?_;iterate 2 refine aC ?_
            refine aY (.bool true) rfl χ (fun wq eG=> ?_) ?_
            ·obtain⟨nR,mY⟩:=bQ eG;go_simp;exact Calls.mono (cTy.out wq eG) (fun e w'' h=>h)
            go_simp;iterate 17 refine aC ?_
            refine aB ?_;refine aJ κ (fun wN hN hS=> ?_);have hGN:=oL.o.trans (Yb.o.trans hN);go_wp2;go_ret;exact⟨aP (by simp[hTB.o]),hGN⟩
          ·obtain rfl:k=0:=ω;have apO:=ζ (hs1 rfl (fun s h _=>absurd h ω));simp only[Nat.zero_mul,Nat.add_zero] at c0 c1 c2;clear hb1 hs1 hy;go_wp2_with fail;refine aG κ ?_;refine rK (.range 20) 0 ?_;iterate 2 refine aC ?_
           refine aY (.bool true) rfl χ (fun wq eG=> ?_) ?_
           ·obtain⟨nR,mY⟩:=bQ eG;go_simp;exact Calls.mono (cTy.out wq eG) (fun e w'' h=>h)
           go_simp;iterate 17 refine aC ?_
           refine aB ?_;refine aJ κ (fun wN hN hS=> ?_);have hGN:=ζ (Yb.o.trans hN);go_wp2;go_roundw
           case rel=>exact⟨1,ω,ν,apO,hGN⟩
           case measure=>exact ψ
        ·obtain rfl:k=tl:=ω;have hTB:=hall.o mP.o;go_wp2;go_ret;exact⟨aP (by simp[hTB,h20]),oL.o.trans Zh.o⟩
      ·have aAM:(20:Int)<(tl:Int):=ω;go_wp2;go_ret;exact⟨aP (by simp[h20]),oL⟩
def Px (ft:List bK→cZ→Bool) (p:bU):Prop:=∀r∈p.i,(∀y∈r.i.wh,lN ft y)∧∀y∈r.i.from_,lN ft y
def atD (o:Option iD) (F:iD→List Nat):List Nat:=match o with
 | none=>[]
 | some c=>F c
theorem qj.grows {w w':World} {b:Nat} {o:Option iD} {v:Value} (h:qj w b o v) (hg:ah w w'):qj w' b o v:=by
 cases o with
 | none=>exact h
 | some a=>obtain⟨A,c,e,hO⟩:=h;exact⟨A,c,e,hO.grows hg⟩
theorem qj.bJ {w:World} {b b':Nat} {o:Option iD} {v:Value} (h:qj w b o v) (hb:b'≤b):qj w b' o v:=by
 cases o with
 | none=>exact h
 | some a=>obtain⟨A,c,e,hO⟩:=h;exact⟨A,c,e,hO.bJ hb⟩
theorem qj.far {w:World} {b g n:Nat} {o:Option iD} {v:Value} {cs:Array Value} (h:qj w b o v) (hB:aF w g 57 cs) (u:Value):qj (w.setCell ⟨g,n,none⟩ u) b o v:=by
 cases o with
 | none=>exact h
 | some a=>
  obtain⟨A,c,e,hO⟩:=h;exact⟨A,c,e,hO.kept' (aj w ⟨g,n,none⟩ u) (fun j hj=>by injection hj with hj;subst hj;exact aZ hO hB δ)⟩
def aBf (wr:World) (base:Nat) (CU:Option iD) (sp sk:Nat) (f:Nat→Value) (wz:World):Prop:=
 ∃(gc:Nat) (s:ByteArray) (A:Option Addr) (m k:Nat) (lv c f' t:Int),f sp=.pointer (some ⟨gc,0,none⟩)∧f sk=.bool CU.isSome∧
  aF wz gc 57 #[.string s,.slice A m k,.int .i64 lv,.int .u32 c,.int .i64 f',.int .i64 t]∧qj wz base CU (.agg #[.string s,.slice A m k,.int .i64 lv,.int .u32 c,.int .i64 f',.int .i64 t])∧ah wr wz∧wr.heap.size≤gc
theorem aaj {fb:cZ→Bool} {ft:List bK→cZ→Bool} {p:bU} {tO:fZ} {lA:Option Addr} {lm lk:Nat} {xs:List dA} {now:Int} {k:Nat} {x:dA} (w:World) (hp:p.At w) (oO:lQ fb p) (I4:Px ft p) (hib:∀r∈p.i,r.bm≤1000000) (XU:p.im≤1000)
 (hA:bW w 6 tq lA lm xs) (hat:∀a∈xs,a.At w) (JG:lm≤1000) (mP:tO.ok) (hk:xs[k]? = some x) :
 Calls Tryz.prog 99 #[p.val,.slice lA lm lk,.int .i64 (k:Int),.agg #[.int .i64 tO.lv,.int .u32 (tO.c:Int)],.int .i64 now] w fun e w'=>∃v,e =.returned v∧Own w' w.heap.size 3 1 encI v (xX fb ft p.aU (xs.map (·.a)) k tO now)∧ah w w':=by
 have wu:=List.mem_of_getElem? hk;have hxA:=hat x wu;have cR:=ζ (fun W (hW:ah w W)=>vU W (hxA.keep hW));have cK:=ζ (fun W (hW:ah w W)=>yV W (hp.keep hW) oO);have cC:=ζ (fun W (hW:ah w W)=>Dq W (hp.keep hW) (hxA.keep hW) mP);have cI:=ζ (fun (hr:bH x.a = true) W (hW:ah w W)=>U2 W (hxA.arr.keep hW) (by have:=(fV hr).1;omega) (by have:=(fV hr).2.1;have h2:=hxA.arr.1;omega) (fun f hf=>((fV hr).2.2 f hf).1));have cF:=ζ (fun (r:Aq) (hr:r∈p.i) W=>vH r.i.l tO W (hp.iAt r hr).KC mP);have cB:=ζ (fun (r:Aq) (hr:r∈p.i) (c:dA) (id:Nat) W (hW:ah w W) (hc:bW W 2 dW c.A c.m c.a.fs) (hcm:c.m≤1000) (hcT:∀f∈c.a.fs,f.v.length≤1000000)=>
  aeY (ft:=ft) (lk:=lk) (now:=now) (id:=id) W ((hp.iAt r hr).keep hW) (hib r hr) hc hcm hcT (hA.keep hW) (fun a ha=>(hat a ha).keep hW) JG (I4 r hr).1 (I4 r hr).2)
 have S_:=hp.i;have ap_:k<lm:=by rw[←hA.1];exact (List.getElem?_eq_some_iff.1 hk).1
 obtain⟨xb,xo,x',hxp,hxb,yN,XJ⟩:=hA.at_ ap_;rw[hk] at yN;injection yN with yN
 subst yN;have hQ:xX fb ft p.aU (xs.map (·.a)) k tO now=if bH x.a then (if fP fb p.aU=0 then atD (iJ p.aU x.a tO) (fun c=>EG ft p.aU (xs.map (·.a)) (BU x.a) c tO now p.im) else []) else []:=by
  have e1:(xs.map (·.a))[k]? = some x.a:=by rw[List.getElem?_map,hk];rfl
  have e2:p.aU.jT.length=p.im:=by
   show (p.i.map (·.i)).length=_
   rw[List.length_map,S_.1]
  unfold xX EG;rw[e1];simp only[e2];rfl
 have Ov:bH x.a = true→∀c,iJ p.aU x.a tO=some c→(∀f∈c.fs,f.v.length≤1000000)∧c.fs.length≤1000:=fun hr c hc=>by
  have h1:=fV hr;have h3:=mQ p.aU x.a.fs x.a.l tO;unfold iJ at hc;split at hc
  ·cases hc
  ·injection hc with hc
   subst hc;exact⟨fun f hf=>by have:=(h1.2.2 f (List.mem_filter.1 hf).1).2;omega,by simp only;omega⟩
 have hst:=ζ (fun (c:iD) j (r:Aq) b (hr:p.i[j]? = some r) (h:(gy r.i.l tO&&byI ft r.i (xs.map (·.a)) (BU x.a) c now)=b)=>aaU (ft:=ft) (p:=p.aU) (l:=xs.map (·.a)) (id:=BU x.a) (c:=c) (tO:=tO) (now:=now) (k:=j) (b:=b) (by
  unfold SL;have e:p.aU.jT[j]? = some r.i:=by
   show (p.i.map (·.i))[j]? = _
   rw[List.getElem?_map,hr];rfl
  rw[e];exact h))
 have Va:=ζ (fun (c:iD) j=>aeX ft p.aU (xs.map (·.a)) (BU x.a) c tO now j);have L8:Hid (∀c:iD,EG ft p.aU (xs.map (·.a)) (BU x.a) c tO now 0=[]):=ζ (fun c=>rfl);generalize EG ft p.aU (xs.map (·.a)) (BU x.a)=FF at *
 generalize xX fb ft p.aU (xs.map (·.a)) k tO now=Q at *
 generalize iJ p.aU x.a tO=CU at *
 generalize fP fb p.aU=CK at *
 generalize hID:BU x.a = ID at *
 generalize hAB:bH x.a = AB at *
 have hs0:w.cell? ⟨xb,xo+k*6,none⟩=some (.string ⟨x.a.src.toArray⟩):=XJ 0 _ rfl;have hs1:w.cell? ⟨xb,xo+k*6+1,none⟩=some (.slice x.A x.m x.k):=XJ 1 _ rfl;have hs2:w.cell? ⟨xb,xo+k*6+2,none⟩=some (.int .i64 x.a.l.lv):=XJ 2 _ rfl;have hs3:w.cell? ⟨xb,xo+k*6+3,none⟩=some (.int .u32 (x.a.l.c:Int)):=XJ 3 _ rfl;have hs4:w.cell? ⟨xb,xo+k*6+4,none⟩=some (.int .i64 x.a.f):=XJ 4 _ rfl;have hs5:w.cell? ⟨xb,xo+k*6+5,none⟩=some (.int .i64 x.a.t):=XJ 5 _ rfl;have kY:(k:Int)<(lm:Int):=ω;subst hxp;replace S_:=ζ S_;replace Ov:=ζ Ov;replace hQ:=ζ hQ;clear hp oO I4 hib hA hat hxA wu XJ hk;unfold bU.val je at *
 obtain⟨⟨sl,sA,sm,sk⟩,⟨rl,rA,rm,rk⟩,⟨el,eA,em,ek⟩,⟨al,aA,am,ak⟩,o,oA,om,ok,i,iA,im,ik⟩:=p;obtain⟨⟨src,fs,⟨lv,lc⟩,f,t⟩,A,m,k0⟩:=x;simp only at *
 have KH:¬(k:Int)<0:=ω;have IY:¬lm≤k:=ω;go_enter Tryz.func99,Tryz.ntmps99
 go_wp2_with fail;refine (cR.out _ γ).mono ?_;rintro e w1 ⟨rfl,hb1⟩;have bP:=(((aF.new w 50 #[.slice sA sm sk,.slice rA rm rk,.slice eA em ek,.slice aA am ak,.slice oA om ok,.slice iA im ik]).alloc (.cells #[.int .i64 tO.lv,.int .u32 (tO.c:Int)] 25)).grows hb1);have bL:=((aF.kW w (.cells #[.slice sA sm sk,.slice rA rm rk,.slice eA em ek,.slice aA am ak,.slice oA om ok,.slice iA im ik] 50) 25 #[.int .i64 tO.lv,.int .u32 (tO.c:Int)]).grows hb1);have fF:=((((ah.refl w).alloc (.cells #[.slice sA sm sk,.slice rA rm rk,.slice eA em ek,.slice aA am ak,.slice oA om ok,.slice iA im ik] 50)).alloc (.cells #[.int .i64 tO.lv,.int .u32 (tO.c:Int)] 25)).trans hb1);replace hs0:=fF.cell hs0;replace hs1:=fF.cell hs1;replace hs2:=fF.cell hs2;replace hs3:=fF.cell hs3;replace hs4:=fF.cell hs4;replace hs5:=fF.cell hs5;replace hxb:=Nat.lt_of_lt_of_le hxb fF.size;have hsz:=fF.size;clear hb1 cR;cases AB with
 | false=>
  go_wp2;go_ret;exact⟨_,rfl,by rw[hQ.o];exact Own.iH _ _ _ _ _,fF⟩
 | true=>
  have p0:=bP.c0;have p1:=bP.c1;have p2:=bP.c2;have p3:=bP.c3;have p4:=bP.c4;have p5:=bP.c5;have pl:=bP.lt;go_wp2_with fail;refine (cK.out _ fF).mono ?_;rintro e w2 ⟨rfl,hb2⟩;replace bP:=bP.grows hb2;replace bL:=bL.grows hb2;have fQ:=fF.trans hb2;replace hs0:=hb2.cell hs0;replace hs1:=hb2.cell hs1;replace hs2:=hb2.cell hs2;replace hs3:=hb2.cell hs3;replace hs4:=hb2.cell hs4;replace hs5:=hb2.cell hs5;replace hxb:=Nat.lt_of_lt_of_le hxb hb2.size;replace hsz:=fQ.size;clear hb2 cK fF p0 p1 p2 p3 p4 p5 pl;by_cases xE:CK=0
  ·subst xE;replace hQ:Hid (Q=atD CU fun c=>FF c tO now im):=ζ (by rw[hQ.o];simp);have p0:=bP.c0;have p1:=bP.c1;have p2:=bP.c2;have p3:=bP.c3;have p4:=bP.c4;have p5:=bP.c5;have pl:=bP.lt;have l0:=bL.c0;have l1:=bL.c1;have ll:=bL.lt;have aN:=ζ (ah.refl w2);replace bP:=ζ bP;replace bL:=ζ bL;replace fQ:=ζ fQ;go_wp2_with fail;apply Hg (is:=[45,38,46,47,11,12]) (R:=aBf w2 w.heap.size CU 11 12)
   case h1=>
    refine aG κ ?_;refine rK (.range 6) 7 ?_;iterate 6 refine aC ?_
    refine aB ?_;refine aH [6,10] κ σ (fun wN hN hS=>(au.cons rfl (fun K' hK=> ?_) (au.cons rfl (fun K' hK=> ?_) au.nil)))
    ·skip
     try replace iI:=ζ (iI.o.grows hN)
     try replace pK:=ζ (pK.o.grows hN)
     try replace aN:=ζ (aN.o.trans hN)
     clear hN;go_simp;refine (cC.out _ (fQ.o.trans aN.o)).mono ?_;rintro e w5 ⟨v5,rfl,Y4,fM⟩;have pK:=ζ (Y4.bJ (b':=w.heap.size) (by have:=(fQ.o.trans aN.o).size;omega));obtain⟨vs,vA,vm,vk,Zr,vc,vf,vt,rfl⟩:=qj.form Y4;try replace iI:=ζ (iI.o.grows fM)
     replace aN:=ζ (aN.o.trans fM);refine hK.o _ _ ?_ (fun hS=> ?_)
     ·exact aN.o
     clear fM Y4;clear hK hS;refine rK [7,8,9] 3 ?_;iterate 3 refine aC ?_
     refine aB ?_;refine aH [10] κ σ (fun wN hN hS=>(au.cons rfl (fun K' hK=> ?_) au.nil));try replace iI:=ζ (iI.o.grows hN)
     try replace pK:=ζ (pK.o.grows hN)
     try replace aN:=ζ (aN.o.trans hN)
     clear hN;go_simp;have iI:=ζ (aF.new wN 57 Bq);have Cc:Hid (w2.heap.size≤wN.heap.size):=ζ aN.o.size;replace aN:=ζ (aN.o.alloc (.cells Bq 57));try replace pK:=ζ (pK.o.grows ((ah.refl wN).alloc (.cells Bq 57)))
     refine hK.o _ _ ?_ (fun hS=> ?_)
     ·exact aN.o
     generalize wN.heap.size=gc at *
     clear hK hS;refine aH [11] κ σ (fun wN hN hS=>(au.cons rfl (fun K' hK=> ?_) au.nil));try replace iI:=ζ (iI.o.grows hN)
     try replace pK:=ζ (pK.o.grows hN)
     try replace aN:=ζ (aN.o.trans hN)
     clear hN;have b0:=iI.o;have k0:=pK.o;have g0:=aN.o;have b1:=b0.bD 0 (.string vs);have k1:=k0.far (n:=0) b0 (.string vs);have g1:=g0.setCell (p:=⟨gc,0,none⟩) Cc.o (.string vs);have b2:=b1.bD 1 (.slice vA vm vk);have k2:=k1.far (n:=1) b1 (.slice vA vm vk);have g2:=g1.setCell (p:=⟨gc,1,none⟩) Cc.o (.slice vA vm vk);have b3:=b2.bD 2 (.int .i64 Zr);have k3:=k2.far (n:=2) b2 (.int .i64 Zr);have g3:=g2.setCell (p:=⟨gc,2,none⟩) Cc.o (.int .i64 Zr);have b4:=b3.bD 3 (.int .u32 vc);have k4:=k3.far (n:=3) b3 (.int .u32 vc);have g4:=g3.setCell (p:=⟨gc,3,none⟩) Cc.o (.int .u32 vc);have b5:=b4.bD 4 (.int .i64 vf);have k5:=k4.far (n:=4) b4 (.int .i64 vf);have g5:=g4.setCell (p:=⟨gc,4,none⟩) Cc.o (.int .i64 vf);have b6:=b5.bD 5 (.int .i64 vt);have k6:=k5.far (n:=5) b5 (.int .i64 vt);have g6:=g5.setCell (p:=⟨gc,5,none⟩) Cc.o (.int .i64 vt);obtain⟨z0,z1,z2,z3,z4,z5,zf,zl⟩:=qC iI.o;have iI:=ζ b6;have pK:=ζ k6;have aN:=ζ g6;clear b0 k0 g0 b1 k1 g1 b2 k2 g2 b3 k3 g3 b4 k4 g4 b5 k5 g5 b6 k6 g6;go_simp;refine hK.o _ _ ?_ (fun hS=> ?_)
     ·exact aN.o
     clear z0 z1 z2 z3 z4 z5 zf zl;generalize ((((((wN.setCell ⟨gc,0,none⟩ (.string vs)).setCell ⟨gc,1,none⟩ (.slice vA vm vk)).setCell ⟨gc,2,none⟩ (.int .i64 Zr)).setCell ⟨gc,3,none⟩ (.int .u32 vc)).setCell ⟨gc,4,none⟩ (.int .i64 vf)).setCell ⟨gc,5,none⟩ (.int .i64 vt))=w9 at *
     clear hK hS;refine rK [12] 0 ?_;iterate 1 refine aC ?_
     refine aB ?_;refine aJ κ (fun wN hN hS=> ?_);try replace iI:=ζ (iI.o.grows hN)
     try replace pK:=ζ (pK.o.grows hN)
     try replace aN:=ζ (aN.o.trans hN)
     refine⟨(by
      simp only[gV,List.foldl_cons,List.foldl_nil];go_simp;try rfl
     ),gc,vs,vA,vm,vk,Zr,vc,vf,vt,rfl,rfl,iI.o,pK.o,aN.o,Cc.o⟩
    ·skip
     try replace iI:=ζ (iI.o.grows hN)
     try replace pK:=ζ (pK.o.grows hN)
     try replace aN:=ζ (aN.o.trans hN)
     clear hN;go_simp;have iI:=ζ (aF.new wN 57 Bq);have Cc:Hid (w2.heap.size≤wN.heap.size):=ζ aN.o.size;replace aN:=ζ (aN.o.alloc (.cells Bq 57));try replace pK:=ζ (pK.o.grows ((ah.refl wN).alloc (.cells Bq 57)))
     refine hK.o _ _ ?_ (fun hS=> ?_)
     ·exact aN.o
     generalize wN.heap.size=gc at *
     clear hK hS;refine aH [6] κ σ (fun wN hN hS=>(au.cons rfl (fun K' hK=> ?_) au.nil));try replace iI:=ζ (iI.o.grows hN)
     try replace pK:=ζ (pK.o.grows hN)
     try replace aN:=ζ (aN.o.trans hN)
     clear hN;go_simp;refine (cC.out _ (fQ.o.trans aN.o)).mono ?_;rintro e w5 ⟨v5,rfl,Y4,fM⟩;have pK:=ζ (Y4.bJ (b':=w.heap.size) (by have:=(fQ.o.trans aN.o).size;omega));obtain⟨vs,vA,vm,vk,Zr,vc,vf,vt,rfl⟩:=qj.form Y4;try replace iI:=ζ (iI.o.grows fM)
     replace aN:=ζ (aN.o.trans fM);refine hK.o _ _ ?_ (fun hS=> ?_)
     ·exact aN.o
     clear fM Y4;clear hK hS;refine rK [7,8,9] 2 ?_;iterate 3 refine aC ?_
     refine aB ?_;refine aH [11] κ σ (fun wN hN hS=>(au.cons rfl (fun K' hK=> ?_) au.nil));try replace iI:=ζ (iI.o.grows hN)
     try replace pK:=ζ (pK.o.grows hN)
     try replace aN:=ζ (aN.o.trans hN)
     clear hN;have b0:=iI.o;have k0:=pK.o;have g0:=aN.o;have b1:=b0.bD 0 (.string vs);have k1:=k0.far (n:=0) b0 (.string vs);have g1:=g0.setCell (p:=⟨gc,0,none⟩) Cc.o (.string vs);have b2:=b1.bD 1 (.slice vA vm vk);have k2:=k1.far (n:=1) b1 (.slice vA vm vk);have g2:=g1.setCell (p:=⟨gc,1,none⟩) Cc.o (.slice vA vm vk);have b3:=b2.bD 2 (.int .i64 Zr);have k3:=k2.far (n:=2) b2 (.int .i64 Zr);have g3:=g2.setCell (p:=⟨gc,2,none⟩) Cc.o (.int .i64 Zr);have b4:=b3.bD 3 (.int .u32 vc);have k4:=k3.far (n:=3) b3 (.int .u32 vc);have g4:=g3.setCell (p:=⟨gc,3,none⟩) Cc.o (.int .u32 vc);have b5:=b4.bD 4 (.int .i64 vf);have k5:=k4.far (n:=4) b4 (.int .i64 vf);have g5:=g4.setCell (p:=⟨gc,4,none⟩) Cc.o (.int .i64 vf);have b6:=b5.bD 5 (.int .i64 vt);have k6:=k5.far (n:=5) b5 (.int .i64 vt);have g6:=g5.setCell (p:=⟨gc,5,none⟩) Cc.o (.int .i64 vt);obtain⟨z0,z1,z2,z3,z4,z5,zf,zl⟩:=qC iI.o;have iI:=ζ b6;have pK:=ζ k6;have aN:=ζ g6;clear b0 k0 g0 b1 k1 g1 b2 k2 g2 b3 k3 g3 b4 k4 g4 b5 k5 g5 b6 k6 g6;go_simp;refine hK.o _ _ ?_ (fun hS=> ?_)
     ·exact aN.o
     clear z0 z1 z2 z3 z4 z5 zf zl;generalize ((((((wN.setCell ⟨gc,0,none⟩ (.string vs)).setCell ⟨gc,1,none⟩ (.slice vA vm vk)).setCell ⟨gc,2,none⟩ (.int .i64 Zr)).setCell ⟨gc,3,none⟩ (.int .u32 vc)).setCell ⟨gc,4,none⟩ (.int .i64 vf)).setCell ⟨gc,5,none⟩ (.int .i64 vt))=w9 at *
     clear hK hS;refine rK [12] 0 ?_;iterate 1 refine aC ?_
     refine aB ?_;refine aJ κ (fun wN hN hS=> ?_);try replace iI:=ζ (iI.o.grows hN)
     try replace pK:=ζ (pK.o.grows hN)
     try replace aN:=ζ (aN.o.trans hN)
     refine⟨(by
      simp only[gV,List.foldl_cons,List.foldl_nil];go_simp;try rfl
     ),gc,vs,vA,vm,vk,Zr,vc,vf,vt,rfl,rfl,iI.o,pK.o,aN.o,Cc.o⟩
   intro fz w3 hR;obtain⟨gc,vs,vA,vm,vk,Zr,vc,vf,vt,e11,e12,iI,pK,hb3,Cc⟩:=hR;simp only[lM,List.foldl_cons,List.foldl_nil,e11,e12];replace bP:=ζ (bP.out.grows hb3);replace bL:=ζ (bL.out.grows hb3);have qo:=ζ (fQ.o.trans hb3);replace hs0:=hb3.cell hs0;replace hs1:=hb3.cell hs1;replace hs2:=hb3.cell hs2;replace hs3:=hb3.cell hs3;replace hs4:=hb3.cell hs4;replace hs5:=hb3.cell hs5;replace hxb:=Nat.lt_of_lt_of_le hxb hb3.size;replace iI:=ζ iI;have ae6:=qo.o.size;clear hb3 aN p0 p1 p2 p3 p4 p5 pl l0 l1 ll cC fQ hsz e11 e12;cases CU with
   | none=>
    simp only[Option.isSome_none];go_wp2;go_ret;exact⟨_,rfl,by rw[hQ.o];exact Own.iH _ _ _ _ _,qo.o⟩
   | some c=>
    obtain⟨cA,ck,hce,kP⟩:=pK;unfold je at hce;simp only[Value.agg.injEq,Array.mk.injEq,List.cons.injEq,and_true,Value.string.injEq,Value.slice.injEq,Value.int.injEq,true_and] at hce;obtain⟨rfl,⟨rfl,rfl,rfl⟩,rfl,rfl,rfl,rfl⟩:=hce;obtain⟨hcT,qB⟩:=Ov.o (by first | exact trivial | rfl) c rfl;obtain⟨A',c',hcv,-,-,hX⟩:=kP.arr IZ;simp only[Value.slice.injEq,true_and] at hcv;obtain⟨rfl,rfl⟩:=hcv;have ayL:=ζ (fun j r b h1 h2=>hst.o c j r b h1 h2);have azi:=ζ (fun j=>Va.o c j);have aAO:FF c tO now 0=[]:=L8.o c;have hQ1:Hid (Q=FF c tO now im):=hQ;have cB1:=ζ (fun (r:Aq) (hr:r∈i) W (hW:ah w W) (hX:bW W 2 dW vA c.fs.length c.fs)=>cB.out r hr ⟨c,vA,c.fs.length,vk⟩ ID W hW hX qB hcT);have cI1:=ζ (cI.out (by first | exact trivial | rfl) _ qo.o);clear hst Va L8 hQ Ov cB cI;obtain⟨II,Na,⟨clv,clc⟩,cf0,ct0⟩:=c;simp only[Option.isSome_some] at *
    generalize Vu:Na.length=L at *
    replace Vu:=ζ Vu;replace hX:=ζ hX;generalize hFF:FF ⟨II,Na,⟨clv,clc⟩,cf0,ct0⟩ tO now=F at *
    clear hFF hcT kP;go_wp2_with fail;refine cI1.out.mono ?_;rintro e w4 ⟨rfl,hb4⟩;replace bP:=ζ (bP.out.grows hb4);replace bL:=ζ (bL.out.grows hb4);replace iI:=ζ (iI.o.grows hb4);replace hX:=ζ (hX.o.keep hb4);have rH:=ζ (qo.o.trans hb4);have amk:=rH.o.size;have aEY:=iI.o.lt;have p5:=bP.out.c5;have pl:=bP.out.lt;clear cI1 hb4 hs0 hs1 hs2 hs3 hs4 hs5 hxb qo ae6 Cc;go_wp2;go_loopw [13,15,16,58] (fun v _ _ n wr=>∃j:Nat,j≤im∧n =.int .i64 (j:Int)∧Hid (Own wr w4.heap.size 3 1 encI v (F j))∧Hid (ah w4 wr)) (fun _ _ _ n _=>im-(intOf n).toNat)
    case atStart=>exact⟨0,ω,rfl,by rw[aAO];exact Own.iH _ _ _ _ _,ζ (ah.refl _)⟩
    case round=>
     obtain⟨j,hj,rfl,hO,Zh⟩:=hrel;by_cases hjm:j < im
     ·obtain⟨bb,off,r,hiA,GV,hr,hcell⟩:=(S_.o.keep (rH.o.trans Zh.o)).at_ hjm;subst hiA;have c0:wr.cell? ⟨bb,off+j * 5,none⟩=some (.slice r.bA r.bm r.bk):=hcell 0 _ rfl;have c1:wr.cell? ⟨bb,off+j * 5+1,none⟩=some (.int .i64 r.i.l.lv):=hcell 1 _ rfl;have c2:wr.cell? ⟨bb,off+j * 5+2,none⟩=some (.int .u32 (r.i.l.c:Int)):=hcell 2 _ rfl;have c3:wr.cell? ⟨bb,off+j * 5+3,none⟩=some (.slice r.fA r.fm r.fk):=hcell 3 _ rfl;have c4:wr.cell? ⟨bb,off+j * 5+4,none⟩=some (.slice r.wA r.wm r.wk):=hcell 4 _ rfl;have V5:(j:Int)<(im:Int):=ω;have hrm:=List.mem_of_getElem? hr;have hs1:=ayL.o j r;have cFr:=cF.out r hrm;have cBr:=cB1.out r hrm;have Y9:=bL.out.grows Zh.o;have l0:=Y9.c0;have l1:=Y9.c1;have ll:=Y9.lt;have hlk:=azi.o j;unfold WJ at cBr;generalize byI ft r.i (xs.map (·.a)) ID ⟨II,Na,⟨clv,clc⟩,cf0,ct0⟩ now=BY at *
      generalize gy r.i.l tO=FW at *
      replace hs1:=ζ (hs1 _ hr rfl);replace cFr:=ζ cFr;replace cBr:=ζ cBr;replace hlk:=ζ hlk;have aEU:=Zh.o.size;clear hcell Y9 hr hrm;go_wp2_with fail;refine (cFr.out _).mono ?_;rintro e w5 ⟨rfl,fM⟩;have oL:=ζ ((Zh.o.alloc (.cells #[.slice r.bA r.bm r.bk,.int .i64 r.i.l.lv,.int .u32 (r.i.l.c:Int),.slice r.fA r.fm r.fk,.slice r.wA r.wm r.wk] 77)).trans fM);have lZ:=ζ ((hO.o.alloc (.cells #[.slice r.bA r.bm r.bk,.int .i64 r.i.l.lv,.int .u32 (r.i.l.c:Int),.slice r.fA r.fm r.fk,.slice r.wA r.wm r.wk] 77)).grows fM);have hR5:=(aF.new wr 77 #[.slice r.bA r.bm r.bk,.int .i64 r.i.l.lv,.int .u32 (r.i.l.c:Int),.slice r.fA r.fm r.fk,.slice r.wA r.wm r.wk]).grows fM;clear fM c0 c1 c2 c3 c4 l0 l1 ll Zh hO cFr;cases FW with
      | false=>
       have hF:Hid (F (j + 1)=F j):=ζ (by rw[hs1.o];simp);go_wp2;go_roundw
       case rel=>exact⟨j + 1,ω,ν,by rw[hF.o];exact lZ,oL⟩
       case measure=>exact ψ
      | true=>
       have r0:=hR5.c0;have r1:=hR5.c1;have r2:=hR5.c2;have r3:=hR5.c3;have r4:=hR5.c4;have rl:=hR5.lt;have hk5:=iI.o.grows oL.o;have a0:=hk5.c0;have a1:=hk5.c1;have a2:=hk5.c2;have a3:=hk5.c3;have a4:=hk5.c4;have a5:=hk5.c5;have al:=hk5.lt;clear hR5 hk5;go_wp2_with fail;refine (cBr.out _ (rH.o.trans oL.o) (hX.o.keep oL.o)).mono ?_;rintro e w6 ⟨rfl,Bj⟩;have EN:=ζ (oL.o.trans Bj);have uj:=ζ (lZ.o.grows Bj);have amj:=EN.o.size;clear Bj r0 r1 r2 r3 r4 rl a0 a1 a2 a3 a4 a5 al oL lZ cBr;cases BY with
       | false=>
        have hF:Hid (F (j + 1)=F j):=ζ (by rw[hs1.o];simp);go_wp2;go_roundw
        case rel=>exact⟨j + 1,ω,ν,by rw[hF.o];exact uj,EN⟩
        case measure=>exact ψ
       | true=>
        have hF:Hid (F (j + 1)=F j ++[j]):=ζ (by rw[hs1.o];simp);go_wp2_with (at_builtin;refine dH (x:=j) ari rfl (.tmp 75) (.tmp 77) rfl (uj.o.alloc _) rfl ⟨w6.heap.size,0,none⟩ rfl rfl (iK (by exact heap_alloc_new w6 _)) (Xl j) (by simp;omega) (by have:=hlk.o;unfold maxLen;omega) (by have:=hlk.o;omega) (fun v7 w7 rG hgr qQ=> ?_);(have V_:=ζ ((EN.o.alloc _).aO hgr (fun g hg=>uj.o.gY g hg)));(replace rG:=ζ rG);clear hgr qQ);go_roundw
        case rel=>exact⟨j + 1,ω,ν,by rw[hF.o];exact rG,V_⟩
        case measure=>exact ψ
     ·obtain rfl:j = im:=ω;go_wp2;go_ret;exact⟨_,rfl,by rw[hQ1.o];exact hO.o.bJ ω,rH.o.trans Zh.o⟩
  ·go_wp2;go_ret;have hQ0:Q=[]:=by rw[hQ.o];simp[xE]
   exact⟨_,rfl,by rw[hQ0];exact Own.iH _ _ _ _ _,fQ⟩
def BG (p:fU) (l:List iD) (id:Nat) (tt:fZ) (now:Int) (k:Nat):List (Bool×List bK):=(l.take k).filterMap (pF p id tt now)
def kH (p:fU) (l:List iD) (id:Nat) (tt:fZ) (now:Int) (k:Nat) (o:Option nH):Prop:=(∀c∈BG p l id tt now k,c.1=false)∧match o with
 | none=>BG p l id tt now k=[]
 | some x=>x.t.id=id∧x.t.jH=false∧(BG p l id tt now k).head? =some (false,x.t.fs)
section
variable {p:fU} {l:List iD} {id:Nat} {tt:fZ} {now:Int} {k:Nat} {o:Option nH} {a:iD}
theorem zC (hr:l[k]? = some a):BG p l id tt now (k+1)=BG p l id tt now k++(pF p id tt now a).toList:=by
 unfold BG;rw[List.take_add_one,hr,List.filterMap_append];simp only[Option.toList_some];rw[List.filterMap_cons];cases pF p id tt now a <;> simp
theorem kH.start:kH p l id tt now 0 none:=⟨fun c hc=>by simp[BG] at hc,by simp[BG]⟩
theorem kH.skip (h:kH p l id tt now k o) (hr:l[k]? = some a) (hc:pF p id tt now a = none):kH p l id tt now (k+1) o:=by
 unfold kH at *
 rw[zC hr,hc];simpa using h
theorem kH.first (h:kH p l id tt now k none) (hr:l[k]? = some a) {fs:List bK} (hc:pF p id tt now a = some (false,fs)) {x:nH} (hx:x.t = ⟨id,false,fs⟩):kH p l id tt now (k+1) (some x):=by
 unfold kH at *
 rw[zC hr,hc,h.2];simp[hx]
theorem kH.more {x:nH} (h:kH p l id tt now k (some x)) (hr:l[k]? = some a) {fs:List bK} (hc:pF p id tt now a = some (false,fs)):kH p l id tt now (k+1) (some x):=by
 obtain⟨h1,h2,h3,h4⟩:=h;refine⟨?_,h2,h3,?_⟩
 ·rw[zC hr,hc];intro c hcm;rcases List.mem_append.1 hcm with hcm | hcm
  ·exact h1 c hcm
  ·simp at hcm;rw[hcm]
 ·rw[zC hr,hc];rw[List.head?_append,h4];rfl
theorem OM {S:List (Bool×List bK)} (h:∀c∈S,c.1=false):S.find? (·.1)=none:=by
 rw[List.find?_eq_none];intro x hx;rw[h x hx];simp
theorem kH.fire (h:kH p l id tt now k o) (hr:l[k]? = some a) {fs:List bK} (hc:pF p id tt now a = some (true,fs)):DW p l id tt now=some ⟨id,true,fs⟩:=by
 have e:l.filterMap (pF p id tt now)=BG p l id tt now k++(true,fs)::(l.drop (k+1)).filterMap (pF p id tt now):=by
  have hk:=(List.getElem?_eq_some_iff.1 hr).1;have hd:l.drop k=a ::l.drop (k+1):=by
   rw[List.drop_eq_getElem_cons hk];rw[List.getElem?_eq_getElem hk] at hr;injection hr with hr
   rw[hr]
  conv=>lhs;rw[←List.take_append_drop k l]
  rw[List.filterMap_append,hd,List.filterMap_cons,hc];rfl
 unfold DW;rw[e,List.find?_append,OM h.1];simp
theorem kH.done (h:kH p l id tt now l.length o):DW p l id tt now=o.map (·.t):=by
 have e:l.filterMap (pF p id tt now)=BG p l id tt now l.length:=by unfold BG;rw[List.take_length]
 unfold DW;rw[e,OM h.1];obtain⟨h1,h2⟩:=h;cases o with
 | none=>simp only at h2;rw[h2];rfl
 | some x=>
  obtain⟨h3,h4,h5⟩:=h2;rw[h5];obtain⟨⟨i,f,s⟩,A,m,k⟩:=x;simp only at h3 h4;subst h3 h4;rfl
end
def qZ (w:World) (base:Nat) (x:nH):Prop:=Own w base 88 2 dW (.slice x.A x.m x.k) x.t.fs∧x.m≤1000∧∀f∈x.t.fs,f.v.length≤1000000
theorem qZ.grows {w w':World} {base:Nat} {x:nH} (h:qZ w base x) (hg:ah w w'):qZ w' base x:=⟨h.1.grows hg,h.2⟩
theorem qZ.bJ {w:World} {base b:Nat} {x:nH} (h:qZ w base x) (hb:b≤base):qZ w b x:=⟨h.1.bJ hb,h.2⟩
theorem qZ.fH {w w':World} {base:Nat} {x:nH} {row:Option Nat} (h:qZ w base x) (hg:w.grownBy w' row) (hr:∀j,row=some j→(Value.slice x.A x.m x.k).ownBlock≠some j):qZ w' base x:=⟨h.1.kept' hg hr,h.2⟩
theorem qZ.far {w:World} {base g i:Nat} {x:nH} {t:TypeId} {cs:Array Value} (h:qZ w base x) (hB:aF w g t cs) (ht:88≠t) (u:Value):qZ (w.setCell ⟨g,i,none⟩ u) base x:=
 h.fH (aj w ⟨g,i,none⟩ u) (fun j hj=>by injection hj with hj;subst hj;exact aZ h.1 hB ht)
theorem qZ.at_ {w:World} {base:Nat} {x:nH} (h:qZ w base x):x.At w:=by
 obtain⟨A,c,hv,-,-,hX⟩:=h.1.arr IZ;injection hv with h1 h2 h3
 subst h1 h3;exact⟨by rw[h2];exact hX,h.2.1,h.2.2⟩
def QJ (o:Option nH):Array Value:=match o with
 | none=> #[.int .u64 0,.bool false,.slice none 0 0]
 | some x=> #[.int .u64 (x.t.id:Int),.bool x.t.jH,.slice x.A x.m x.k]
theorem RN (o:Option nH):∃(i:Int) (b:Bool) (A:Option Addr) (m k:Nat),QJ o = #[.int .u64 i,.bool b,.slice A m k]:=by cases o <;> exact⟨_,_,_,_,_,rfl⟩
theorem akf {w wM:World} {g:Nat} {y:nH} (hZ:aF wM g 65 #[.int .u64 0,.bool false,.slice none 0 0]) (hG:ah w wM) (qA:w.heap.size≤g) (hO:qZ wM w.heap.size y) (i:Int) (b:Bool) (A:Option Addr) (m k:Nat) :
 aF (((wM.setCell ⟨g,0,none⟩ (.int .u64 i)).setCell ⟨g,1,none⟩ (.bool b)).setCell ⟨g,2,none⟩ (.slice A m k)) g 65 #[.int .u64 i,.bool b,.slice A m k]∧ah w (((wM.setCell ⟨g,0,none⟩ (.int .u64 i)).setCell ⟨g,1,none⟩ (.bool b)).setCell ⟨g,2,none⟩ (.slice A m k))∧qZ (((wM.setCell ⟨g,0,none⟩ (.int .u64 i)).setCell ⟨g,1,none⟩ (.bool b)).setCell ⟨g,2,none⟩ (.slice A m k)) w.heap.size y:=by
 have h0:=hZ.bD 0 (.int .u64 i);have h1:=h0.bD 1 (.bool b);have h2:=h1.bD 2 (.slice A m k);refine⟨h2.cast σ,?_,((hO.far hZ δ _).far h0 δ _).far h1 δ _⟩;exact ah.setCell (ah.setCell (ah.setCell hG (p:=⟨g,0,none⟩) qA _) (p:=⟨g,1,none⟩) qA _) (p:=⟨g,2,none⟩) qA _
theorem aiB {p:bU} {tt:fZ} {lA:Option Addr} {lm lk:Nat} {xs:List dA} {id:Nat} {now:Int} (w:World) (hp:p.At w) (hA:bW w 6 tq lA lm xs) (hat:∀a∈xs,a.At w) (JG:lm≤1000) (mP:tt.ok) :
 Calls Tryz.prog 82 #[p.val,.slice lA lm lk,.int .u64 (id:Int),.agg #[.int .i64 tt.lv,.int .u32 (tt.c:Int)],.int .i64 now] w fun e w'=>∃o:Option nH,e =.returned (.tuple #[.agg (QJ o),.bool o.isSome])∧o.map (·.t)=DW p.aU (xs.map (·.a)) id tt now∧(∀x,o = some x→qZ w' w.heap.size x)∧ah w w':=by
 have lJ:=hA.1;have cC:=ζ (fun (a:dA) (ha:a∈xs) W (hW:ah w W)=>Dq W (hp.keep hW) ((hat a ha).keep hW) mP);have cR:=ζ (fun (a:dA) (ha:a∈xs) W (hW:ah w W)=>vU W ((hat a ha).keep hW));have cI:=ζ (fun (c:dA) W (hr:bH c.a = true) (h:bW W 2 dW c.A c.m c.a.fs)=>U2 W h (by have:=(fV hr).1;omega) (by have:=(fV hr).2.1;have h2:=h.1;omega) (fun f hf=>((fV hr).2.2 f hf).1));have ai6:kH p.aU (xs.map (·.a)) id tt now 0 none:=kH.start;have LX:=ζ (fun (a:iD) (h:iJ p.aU a tt=none)=>show pF p.aU id tt now a = none by unfold pF;rw[h]);have wH:=ζ (fun (a c:iD) (h:iJ p.aU a tt=some c) (h1:bH a = false)=>show pF p.aU id tt now a = none by unfold pF;rw[h];simp[h1]);have nI:=ζ (fun (a c:iD) (h:iJ p.aU a tt=some c) (h1:¬BU c = id)=>show pF p.aU id tt now a = none by unfold pF;rw[h];simp[h1]);have iT:=ζ (fun (a c:iD) (h:iJ p.aU a tt=some c) (h1:bH a = true) (h2:BU c = id)=>show pF p.aU id tt now a = some (eP a now,c.fs) by unfold pF;rw[h];simp[h1,h2]);have atZ:=ζ (fun k o (x:dA) (h:kH p.aU (xs.map (·.a)) id tt now k o) (hr:xs[k]? = some x) hc=>h.skip (a:=x.a) (by rw[List.getElem?_map,hr];rfl) hc);have aql:=ζ (fun k (x:dA) (h:kH p.aU (xs.map (·.a)) id tt now k none) (hr:xs[k]? = some x) fs hc (t:nH) ht=>h.first (a:=x.a) (by rw[List.getElem?_map,hr];rfl) (fs:=fs) hc (x:=t) ht);have auq:=ζ (fun k (x:dA) t (h:kH p.aU (xs.map (·.a)) id tt now k (some t)) (hr:xs[k]? = some x) fs hc=>h.more (a:=x.a) (by rw[List.getElem?_map,hr];rfl) (fs:=fs) hc);have auW:=ζ (fun k o (x:dA) (h:kH p.aU (xs.map (·.a)) id tt now k o) (hr:xs[k]? = some x) fs hc=>h.fire (a:=x.a) (by rw[List.getElem?_map,hr];rfl) (fs:=fs) hc);have hdone:=ζ (fun o (h:kH p.aU (xs.map (·.a)) id tt now lm o)=>kH.done (l:=xs.map (·.a)) (o:=o) (by rw[List.length_map,lJ];exact h));have hcr:=ζ (fun (a c:iD) (h:iJ p.aU a tt=some c) (hr:bH a = true)=>Aj h hr);generalize DW p.aU (xs.map (·.a)) id tt now=RES at *
 clear hp hat lJ;replace hA:=ζ hA;generalize hpp:p.aU=aU at *
 unfold bU.val at *
 clear hpp;obtain⟨⟨sl,sA,sm,sk⟩,⟨rl,rA,rm,rk⟩,⟨el,eA,em,ek⟩,⟨al,aA,am,ak⟩,o,oA,om,ok,i,iA,im,ik⟩:=p;simp only at cC ⊢;generalize hSt:kH aU (xs.map (·.a)) id tt now=ST at *
 go_enter Tryz.func82,Tryz.ntmps82
 go_wp2;go_loopw [13,15,16,17,18,21] (fun fnd _ _ _ _ i wr=>∃(k:Nat) (o:Option nH),k≤lm∧i =.int .i64 (k:Int)∧fnd=.bool o.isSome∧Hid (ST k o)∧Hid (∀x,o = some x→qZ wr w.heap.size x)∧Hid (aF wr (w.heap.size+1+1+1) 65 (QJ o))∧Hid (aF wr w.heap.size 50 #[.slice sA sm sk,.slice rA rm rk,.slice eA em ek,.slice aA am ak,.slice oA om ok,.slice iA im ik])∧Hid (aF wr (w.heap.size+1) 25 #[.int .i64 tt.lv,.int .u32 (tt.c:Int)])∧Hid (aF wr (w.heap.size+1+1) 65 #[.int .u64 0,.bool false,.slice none 0 0])∧Hid (ah w wr)) (fun _ _ _ _ _ i _=>lm-(intOf i).toNat)
 case atStart=>exact⟨0,none,ω,rfl,rfl,ai6,(fun x h=>by cases h),aF.aaA w _ _ _ _ _,(((aF.new w _ _).alloc _).alloc _).alloc _,((aF.kW w _ _ _).alloc _).alloc _,(aF.zK w _ _ _ _).alloc _,((((ah.refl w).alloc _).alloc _).alloc _).alloc _⟩
 case round=>
  obtain⟨k,o,hk,rfl,rfl,hst,hoa,hT,hB,hL,hZ,hG⟩:=hrel;by_cases wB:k<lm
  ·obtain⟨bb,off,x,rfl,GV,hx,hcell⟩:=(hA.o.keep hG.o).at_ wB;have c0:wr.cell? ⟨bb,off+k*6,none⟩=some (.string ⟨x.a.src.toArray⟩):=hcell 0 _ rfl;have c1:wr.cell? ⟨bb,off+k*6+1,none⟩=some (.slice x.A x.m x.k):=hcell 1 _ rfl;have c2:wr.cell? ⟨bb,off+k*6+2,none⟩=some (.int .i64 x.a.l.lv):=hcell 2 _ rfl;have c3:wr.cell? ⟨bb,off+k*6+3,none⟩=some (.int .u32 (x.a.l.c:Int)):=hcell 3 _ rfl;have c4:wr.cell? ⟨bb,off+k*6+4,none⟩=some (.int .i64 x.a.f):=hcell 4 _ rfl;have c5:wr.cell? ⟨bb,off+k*6+5,none⟩=some (.int .i64 x.a.t):=hcell 5 _ rfl;have kY:(k:Int)<(lm:Int):=ω;have wu:=List.mem_of_getElem? hx;have TU:=cC.out x wu;have TT:=cR.out x wu;have J3:=Dn x now;have hsk:=ζ (atZ.o k o x hst.o hx);have I4:=ζ (auW.o k o x hst.o hx);have Y5:Hid (∀fs,pF aU id tt now x.a = some (false,fs)→∀t:nH,t.t = ⟨id,false,fs⟩→ST (k+1) (some (o.getD t))):=ζ (by
    cases o with
    | none=>exact fun fs h t ht=>aql.o k x hst.o hx fs h t ht
    | some y=>exact fun fs h t _=>auq.o k x y hst.o hx fs h)
   have hq0:=ζ (LX.o x.a);have hq1:=ζ (wH.o x.a);have Q5:=ζ (nI.o x.a);have hq3:=ζ (iT.o x.a);have azG:=ζ (fun c h hr=>hcr.o x.a c h hr);have p0:=hB.o.c0;have p1:=hB.o.c1;have p2:=hB.o.c2;have p3:=hB.o.c3;have p4:=hB.o.c4;have p5:=hB.o.c5;have l0:=hL.o.c0;have l1:=hL.o.c1;have pl:=hB.o.lt;have ll:=hL.o.lt;have hsz:=hG.o.size;unfold je at TU TT J3;generalize hCU:iJ aU x.a tt=CU at *
   generalize hAB:bH x.a = AB at *
   generalize hFB:eP x.a now=FB at *
   generalize pF aU id tt now x.a = OC at *
   replace TU:=ζ TU;replace TT:=ζ TT;replace J3:=ζ J3;have jG:=ζ ((ah.refl wr).alloc (.cells #[.string ⟨x.a.src.toArray⟩,.slice x.A x.m x.k,.int .i64 x.a.l.lv,.int .u32 (x.a.l.c:Int),.int .i64 x.a.f,.int .i64 x.a.t] 57));clear hcell hx wu hCU hAB hFB hst;go_wp2_with fail;refine (TU.out _ (hG.o.trans jG.o)).mono ?_;rintro e w1 ⟨v,rfl,hcut,hb⟩;replace jG:=ζ (jG.o.trans hb);have AZ:=ζ ((aF.new wr 57 #[.string ⟨x.a.src.toArray⟩,.slice x.A x.m x.k,.int .i64 x.a.l.lv,.int .u32 (x.a.l.c:Int),.int .i64 x.a.f,.int .i64 x.a.t]).grows hb);obtain⟨vs,vA,vm,vk,Zr,vc,vf,vt,rfl⟩:=qj.form hcut;have x0:=AZ.o.c0;have x1:=AZ.o.c1;have x2:=AZ.o.c2;have x3:=AZ.o.c3;have x4:=AZ.o.c4;have x5:=AZ.o.c5;have xz:=AZ.o.lt;clear hb c0 c1 c2 c3 c4 c5 p0 p1 p2 p3 p4 p5 l0 l1 pl ll TU;cases CU with
   | none=>
    have JC:=hsk.o (hq0.o rfl);replace jG:=ζ (jG.o.alloc (.cells #[.string vs,.slice vA vm vk,.int .i64 Zr,.int .u32 vc,.int .i64 vf,.int .i64 vt] 57));simp only[Option.isSome_none];go_wp2;go_roundw
    case rel=>exact⟨k+1,o,ω,ν,rfl,JC,ζ (fun y hy=>(hoa.o y hy).grows jG.o),hT.o.grows jG.o,hB.o.grows jG.o,hL.o.grows jG.o,hZ.o.grows jG.o,hG.o.trans jG.o⟩
    case measure=>exact ψ
   | some c=>
    obtain⟨cA,ck,hce,kP⟩:=hcut;unfold je at hce;simp only[Value.agg.injEq,Array.mk.injEq,List.cons.injEq,and_true,Value.string.injEq,Value.slice.injEq,Value.int.injEq,true_and] at hce;obtain⟨rfl,⟨rfl,rfl,rfl⟩,rfl,rfl,rfl,rfl⟩:=hce;have qO:=ζ (jG.o.alloc (.cells #[.string ⟨c.src.toArray⟩,.slice vA c.fs.length vk,.int .i64 c.l.lv,.int .u32 (c.l.c:Int),.int .i64 c.f,.int .i64 c.t] 57));have hC1:=ζ (aF.new w1 57 #[.string ⟨c.src.toArray⟩,.slice vA c.fs.length vk,.int .i64 c.l.lv,.int .u32 (c.l.c:Int),.int .i64 c.f,.int .i64 c.t]);have F8:=ζ (AZ.o.alloc (.cells #[.string ⟨c.src.toArray⟩,.slice vA c.fs.length vk,.int .i64 c.l.lv,.int .u32 (c.l.c:Int),.int .i64 c.f,.int .i64 c.t] 57));have ajI:=ζ ((kP.bJ (base':=w.heap.size) (by have:=hG.o.size;have:=jG.o.size;simp;omega)).alloc (.cells #[.string ⟨c.src.toArray⟩,.slice vA c.fs.length vk,.int .i64 c.l.lv,.int .u32 (c.l.c:Int),.int .i64 c.f,.int .i64 c.t] 57));simp only[Option.isSome_some] at *
    go_wp2_with fail;refine (TT.out _ (hG.o.trans qO.o)).mono ?_;rintro e w2 ⟨rfl,hb2⟩;replace qO:=ζ (qO.o.trans hb2);replace hC1:=ζ (hC1.o.grows hb2);replace F8:=ζ (F8.o.grows hb2);replace ajI:=ζ (ajI.o.grows hb2);clear hb2 x0 x1 x2 x3 x4 x5 xz jG AZ kP TT;cases AB with
    | false=>
     have JC:=hsk.o (hq1.o c rfl rfl);go_wp2;go_roundw
     case rel=>exact⟨k+1,o,ω,ν,rfl,JC,ζ (fun y hy=>(hoa.o y hy).grows qO.o),hT.o.grows qO.o,hB.o.grows qO.o,hL.o.grows qO.o,hZ.o.grows qO.o,hG.o.trans qO.o⟩
     case measure=>exact ψ
    | true=>
     have hcb:=azG.o c (by first | rfl | trivial) (by first | rfl | trivial);obtain⟨A',c',hcv,-,-,hXa⟩:=ajI.o.arr IZ;simp only[Value.slice.injEq,true_and] at hcv;obtain⟨rfl,rfl⟩:=hcv;have cIx:=ζ (cI.out ⟨c,vA,c.fs.length,vk⟩ w2 hcb hXa);have y0:=hC1.o.c0;have y1:=hC1.o.c1;have y2:=hC1.o.c2;have y3:=hC1.o.c3;have y4:=hC1.o.c4;have y5:=hC1.o.c5;have yz:=hC1.o.lt;have ajl:=fV hcb;have hown:Hid (∀b,qZ w2 w.heap.size ⟨⟨id,b,c.fs⟩,vA,c.fs.length,vk⟩):=ζ (fun b=>⟨ajI.o,by show c.fs.length≤1000;have:=ajl.2.1;omega,fun f hf=>by have:=(ajl.2.2 f hf).2;omega⟩);clear hXa ajI hcb ajl;unfold je at cIx;simp only at cIx;go_wp2_with fail;refine cIx.out.mono ?_;rintro e w3 ⟨rfl,hb3⟩;replace qO:=ζ (qO.o.trans hb3);replace hC1:=ζ (hC1.o.grows hb3);replace F8:=ζ (F8.o.grows hb3);replace hown:=ζ (fun b=>(hown.o b).grows hb3);clear hb3 y0 y1 y2 y3 y4 y5 yz cIx;by_cases aqd:BU c = id
     ·have amH:((BU c:Nat):Int)=(id:Int):=ω;have ai9:=hq3.o c (by first | rfl | trivial) (by first | rfl | trivial) aqd;have x0:=F8.o.c0;have x1:=F8.o.c1;have x2:=F8.o.c2;have x3:=F8.o.c3;have x4:=F8.o.c4;have x5:=F8.o.c5;have xz:=F8.o.lt;clear aqd;replace ai9:=ζ ai9;go_wp2_with fail;refine (J3.out _).mono ?_;rintro e w4 ⟨rfl,hb4⟩;replace qO:=ζ (qO.o.trans hb4);have hC4:=hC1.o.grows hb4;replace hown:=ζ (fun b=>(hown.o b).grows hb4);have Vm:=hT.o.grows qO.o;have az8:=ζ Vm;have hZc:=hZ.o.grows qO.o;have z0:=hZc.c0;have z1:=hZc.c1;have z2:=hZc.c2;have zf:=fun j=>hZc.frozen j
      have zl:=hZc.lt;have y1:=hC4.c1;have yz:=hC4.lt;obtain⟨ti,tb,tA,tm,tk,ht⟩:=RN o;rw[ht] at Vm;have t0:=Vm.c0;have t1:=Vm.c1;have t2:=Vm.c2;have tf:=fun j=>Vm.frozen j
      have tl:=Vm.lt;have rH:=ζ (hG.o.trans qO.o);have hZ4:=ζ (hZ.o.grows qO.o);have Vy:=ζ (hB.o.grows qO.o);have hL4:=ζ (hL.o.grows qO.o);have ay7:=ζ (fun y hy=>(hoa.o y hy).grows qO.o);clear hb4 x0 x1 x2 x3 x4 x5 xz hC4 hC1 F8 qO hG hZ hB hL hoa hT J3 ht;have hb0:=Vm.bD 0 (.int .u64 (id:Int));have aqx:=hb0.bD 1 (.bool FB);have hb2:=aqx.bD 2 (.slice vA c.fs.length vk);have hg2:=ah.setCell (ah.setCell (ah.setCell rH.o (p:=⟨w.heap.size+1+1+1,0,none⟩) (by simp;omega) (.int .u64 (id:Int))) (p:=⟨w.heap.size+1+1+1,1,none⟩) (by simp;omega) (.bool FB)) (p:=⟨w.heap.size+1+1+1,2,none⟩) (by simp;omega) (.slice vA c.fs.length vk);have Ie:∀y,qZ w4 w.heap.size y→qZ (((w4.setCell ⟨w.heap.size+1+1+1,0,none⟩ (.int .u64 (id:Int))).setCell ⟨w.heap.size+1+1+1,1,none⟩ (.bool FB)).setCell ⟨w.heap.size+1+1+1,2,none⟩ (.slice vA c.fs.length vk)) w.heap.size y:=fun y hy=>((hy.far Vm δ _).far hb0 δ _).far aqx δ _
      have aqw:=hb2.cast (cs':=QJ (some ⟨⟨id,FB,c.fs⟩,vA,c.fs.length,vk⟩)) (by simp[QJ]);have hbB:=(((Vy.o.far (p:=⟨w.heap.size+1+1+1,0,none⟩) (by simp;omega) (.int .u64 (id:Int))).far (p:=⟨w.heap.size+1+1+1,1,none⟩) (by simp;omega) (.bool FB)).far (p:=⟨w.heap.size+1+1+1,2,none⟩) (by simp;omega) (.slice vA c.fs.length vk));have hbL:=(((hL4.o.far (p:=⟨w.heap.size+1+1+1,0,none⟩) σ (.int .u64 (id:Int))).far (p:=⟨w.heap.size+1+1+1,1,none⟩) σ (.bool FB)).far (p:=⟨w.heap.size+1+1+1,2,none⟩) σ (.slice vA c.fs.length vk));have hbZ:=(((hZ4.o.far (p:=⟨w.heap.size+1+1+1,0,none⟩) σ (.int .u64 (id:Int))).far (p:=⟨w.heap.size+1+1+1,1,none⟩) σ (.bool FB)).far (p:=⟨w.heap.size+1+1+1,2,none⟩) σ (.slice vA c.fs.length vk));replace aqw:=ζ aqw;replace hg2:=ζ hg2;replace Ie:=ζ Ie;replace hbB:=ζ hbB;replace hbL:=ζ hbL;replace hbZ:=ζ hbZ;clear hb0 aqx hb2 Vm;cases FB with
      | true=>
       have hres:=ζ (I4.o c.fs ai9.o);obtain⟨n0,n1,n2⟩:=akf hbZ.o hg2.o ω (Ie.o _ (hown.o true)) (id:Int) true vA c.fs.length vk;have e0:=n0.cell 0;have e1:=n0.cell 1;have e2:=n0.cell 2;simp only[List.getElem?_toArray,List.getElem?_cons_zero,List.getElem?_cons_succ] at e0 e1 e2;replace n1:=ζ n1;replace n2:=ζ n2;clear n0 I4 hsk Y5;go_wp2;refine bodyPost_ret (v:=.tuple #[.agg (QJ (some ⟨⟨id,true,c.fs⟩,vA,c.fs.length,vk⟩)),.bool true]) ?_ rfl ⟨some ⟨⟨id,true,c.fs⟩,vA,c.fs.length,vk⟩,rfl,hres.o.symm,(fun y hy=>by injection hy with hy;subst hy;exact n2.out),n1.out⟩;simp[results,Tryz.results82,go_sem,e0,e1,e2,QJ]
      | false=>
       clear z0 z1 z2 zf zl;cases o with
       | none=>
        have JC:=Y5.o c.fs ai9.o ⟨⟨id,false,c.fs⟩,vA,c.fs.length,vk⟩ rfl;simp only[Option.isSome_none,Option.getD_none] at *
        go_wp2;go_roundw
        case rel=>exact⟨k+1,some ⟨⟨id,false,c.fs⟩,vA,c.fs.length,vk⟩,ω,ν,rfl,JC,ζ (fun y hy=>by injection hy with hy;subst hy;exact Ie.o _ (hown.o false)),aqw,hbB,hbL,hbZ,hg2⟩
        case measure=>exact ψ
       | some y=>
        have JC:=Y5.o c.fs ai9.o ⟨⟨id,false,c.fs⟩,none,0,0⟩ rfl;simp only[Option.isSome_some,Option.getD_some] at *
        go_wp2;go_roundw
        case rel=>exact⟨k+1,some y,ω,ν,rfl,JC,ay7,az8,Vy,hL4,hZ4,rH⟩
        case measure=>exact ψ
     ·have JC:=hsk.o (Q5.o c (by first | rfl | trivial) aqd);have amH:¬((BU c:Nat):Int)=(id:Int):=ω;go_wp2;go_roundw
      case rel=>exact⟨k+1,o,ω,ν,rfl,JC,ζ (fun y hy=>(hoa.o y hy).grows qO.o),hT.o.grows qO.o,hB.o.grows qO.o,hL.o.grows qO.o,hZ.o.grows qO.o,hG.o.trans qO.o⟩
      case measure=>exact ψ
  ·obtain rfl:k=lm:=ω;have hres:=ζ (hdone.o o hst.o);obtain⟨ti,tb,tA,tm,tk,ht⟩:=RN o;rw[ht] at hT;have t0:=hT.o.c0;have t1:=hT.o.c1;have t2:=hT.o.c2;have tl:=hT.o.lt;have z0:=hZ.o.c0;have z1:=hZ.o.c1;have z2:=hZ.o.c2;have zf:=fun j=>hZ.o.frozen j
   have zl:=hZ.o.lt;have hb0:=hZ.o.bD 0 (.int .u64 ti);have hb1:=hb0.bD 1 (.bool tb);have hb2:=hb1.bD 2 (.slice tA tm tk);have e0:=hb2.cell 0;have e1:=hb2.cell 1;have e2:=hb2.cell 2;have hgz:=ah.setCell (ah.setCell (ah.setCell hG.o (p:=⟨w.heap.size+1+1,0,none⟩) (by simp;omega) (.int .u64 ti)) (p:=⟨w.heap.size+1+1,1,none⟩) (by simp;omega) (.bool tb)) (p:=⟨w.heap.size+1+1,2,none⟩) (by simp;omega) (.slice tA tm tk);have hoz:∀x,o = some x→qZ (((wr.setCell ⟨w.heap.size+1+1,0,none⟩ (.int .u64 ti)).setCell ⟨w.heap.size+1+1,1,none⟩ (.bool tb)).setCell ⟨w.heap.size+1+1,2,none⟩ (.slice tA tm tk)) w.heap.size x:=fun x hx=>(((hoa.o x hx).far hZ.o δ _).far hb0 δ _).far hb1 δ _
   simp at e0 e1 e2;replace hgz:=ζ hgz;replace hoz:=ζ hoz;clear hb0 hb1 hb2;go_wp2;refine bodyPost_ret (v:=.tuple #[.agg (QJ o),.bool o.isSome]) ?_ rfl ⟨o,rfl,hres.o.symm,hoz.o,hgz.o⟩;rw[ht];simp[results,Tryz.results82,go_sem,e0,e1,e2]
end Go.Proofs.YtbhikkgpcmkonaaGreatDoor
