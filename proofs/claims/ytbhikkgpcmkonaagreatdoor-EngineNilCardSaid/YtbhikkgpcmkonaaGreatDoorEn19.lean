/- Parts: LetC InhH LetD -/
import Derived.Test.YtbhikkgpcmkonaaGreatDoorEn0
import Derived.Test.YtbhikkgpcmkonaaGreatDoorEn17
import Derived.Test.YtbhikkgpcmkonaaGreatDoorEn18
import Derived.Test.YtbhikkgpcmkonaaGreatDoorEn3
import Derived.Test.YtbhikkgpcmkonaaGreatDoorEn11
set_option maxRecDepth 100000
set_option maxHeartbeats 12800000
namespace Go.Proofs.YtbhikkgpcmkonaaGreatDoor
open Go.RowKit
structure qH where
 t:U1
 A:Option Addr
 m:Nat
 k:Nat
def abw (x:qH):List Value:=[.int .u64 (x.t.id:Int),.bool x.t.kQ,.slice x.A x.m x.k]
structure qH.At (x:qH) (w:World):Prop where
 arr:cu w 2 eu x.A x.m x.t.fs
 le:x.m≤1000
 txt:∀f∈x.t.fs,f.v.length≤1000000
structure iC where
 rc:List UInt8
 gr:List UInt8
 n:Int
 tm:Int
 eY:List bK
 bA:Option Addr
 bm:Nat
 bk:Nat
 ts:List qH
 tA:Option Addr
 tl:Nat
 tk:Nat
def iC.I4 (x:iC):KT:=⟨x.rc,x.gr,x.n,x.tm,x.eY,x.ts.map (·.t)⟩
def aj6 (x:iC):Value:=.agg #[.string ⟨x.rc.toArray⟩,.string ⟨x.gr.toArray⟩,.int .i64 x.n,.int .i64 x.tm,.slice x.bA x.bm x.bk,.slice x.tA x.tl x.tk]
def nC (x:iC):List Value:=[.string ⟨x.rc.toArray⟩,.string ⟨x.gr.toArray⟩,.int .i64 x.n,.int .i64 x.tm,.slice x.bA x.bm x.bk,.slice x.tA x.tl x.tk]
structure iC.At (x:iC) (w:World):Prop where
 eY:cu w 2 eu x.bA x.bm x.eY
 ble:x.bm≤1000
 UH:∀f∈x.eY,f.v.length≤1000000
 ts:cu w 3 abw x.tA x.tl x.ts
 tle:x.tl≤1000
 at_:∀y∈x.ts,y.At w
theorem Za:∀{l:List U1},Rj l = true→∀{j:Nat} {e f:U1},l[j]? = some e→l[j + 1]? = some f→e.id<f.id
 | [],_,_,_,_,h,_=>by simp at h
 | [_],_,_,_,_,_,h=>by simp at h
 | a ::b ::l,hl,j,e,f,he,hf=>by
  have h2:a.id<b.id∧Rj (b ::l)=true:=by simpa[Rj] using hl
  cases j with
  | zero=>simp at he hf;subst he hf;exact h2.1
  | succ j=>exact Za h2.2 (by simpa using he) (by simpa using hf)
theorem Y_:∀{l:List U1},(∀(j:Nat) (e f:U1),l[j]? = some e→l[j + 1]? = some f→e.id<f.id)→Rj l = true
 | [],_=>rfl
 | [_],_=>rfl
 | a ::b ::l,h=>by
  have h1:=h 0 a b rfl rfl;have h2:=Y_ (l:=b ::l) (fun j e f he hf=>h (j + 1) e f (by simpa using he) (by simpa using hf));show (decide (a.id<b.id)&&Rj (b ::l))=true
  rw[h2];simp[h1]
def Di (l:List U1):Bool:=(l.all fun t=>fieldsU t.fs)&&Rj l
theorem Zr {l:List U1} {k:Nat} {t:U1} (ht:l[k]? = some t) (h:fieldsU t.fs=false):Di l = false:=by
 unfold Di;have:(l.all fun t=>fieldsU t.fs)=false:=by
  rw[List.all_eq_false];exact⟨t,List.mem_of_getElem? ht,by rw[h];simp⟩
 rw[this];rfl
theorem Zt {l:List U1} {k:Nat} {s t:U1} (hs:l[k]? = some s) (ht:l[k+1]? = some t) (h:¬s.id<t.id):Di l = false:=by
 unfold Di;have:Rj l = false:=by
  rw[←Bool.not_eq_true];exact fun hh=>h (Za hh hs ht)
 rw[this];simp
def xA (l:List U1) (k:Nat):Prop:=(∀j t,j < k→l[j]? = some t→fieldsU t.fs=true)∧(∀j s t,j + 1<k→l[j]? = some s→l[j + 1]? = some t→s.id<t.id)
theorem xA.succ {l:List U1} {k:Nat} {t:U1} (h:xA l k) (ht:l[k]? = some t) (hb:fieldsU t.fs=true) (ha:∀s,0<k→l[k-1]? = some s→s.id<t.id):xA l (k+1):=by
 refine⟨fun j g hj hg=> ?_,fun j e g hj he hg=> ?_⟩
 ·by_cases hjk:j = k
  ·subst hjk;rw[ht] at hg;rw[←Option.some.inj hg];exact hb
  ·exact h.1 j g ω hg
 ·by_cases hjk:j + 1=k
  ·subst hjk;rw[ht] at hg;rw[←Option.some.inj hg];exact ha e ω (by simpa using he)
  ·exact h.2 j e g ω he hg
theorem xA.all {l:List U1} (h:xA l l.length):Di l = true:=by
 unfold Di;rw[Bool.and_eq_true,List.all_eq_true];refine⟨fun t ht=> ?_,Y_ fun j s t hs ht=>h.2 j s t (List.getElem?_eq_some_iff.1 ht).1 hs ht⟩;obtain⟨j,hj⟩:=List.getElem?_of_mem ht;exact h.1 j t (List.getElem?_eq_some_iff.1 hj).1 hj
theorem Qh (x:KT):qR x = (JL x.group&&fP x.rc&&pG x.number&&pG x.time&&fieldsU x.eY&&decide (x.KO.length≤20)&&Di x.KO):=rfl
theorem WT {x:iC} (w:World) (hT:lS w) (hx:x.At w) (hgr:x.gr.length≤1000000) :
 Calls Tryz.prog 83 #[aj6 x] w fun e w'=>e =.returned (.bool (qR x.I4))∧ah w w':=by
 have cK:=ζ (fun W (_:ah w W)=>Wu x.gr hgr W);have cN:=ζ (fun W (_:ah w W)=>ru x.rc W);have cT1:=ζ (fun W (_:ah w W)=>RX x.n W);have cT2:=ζ (fun W (_:ah w W)=>RX x.tm W);have cF:=ζ (fun W (hW:ah w W)=>Gy (c:=x.bk) W (hT.grows hW) (hx.eY.keep hW) hx.ble hx.UH);have cT:=ζ (fun y (hy:y∈x.ts) W (hW:ah w W)=>Gy (c:=y.k) W (hT.grows hW) ((hx.at_ y hy).arr.keep hW) (hx.at_ y hy).le (hx.at_ y hy).txt);have hts:=ζ hx.ts;have nM:=hx.ts.1;have htl:=hx.tle;have hR:qR x.I4=(JL x.gr&&fP x.rc&&pG x.n &&pG x.tm&&fieldsU x.eY&&decide (x.tl≤20)&&Di (x.ts.map (·.t))):=by
  rw[Qh];unfold iC.I4;simp only[List.length_map,nM]
 rw[hR];have oG:=ζ (fun k y (h1:x.ts[k]? = some y) (h:fieldsU y.t.fs=false)=>Zr (l:=x.ts.map (·.t)) (k:=k) (t:=y.t) (by rw[List.getElem?_map,h1];rfl) h);have at6:=ζ (fun k y z (h1:x.ts[k]? = some y) (h2:x.ts[k+1]? = some z) (h:¬y.t.id<z.t.id)=>Zt (l:=x.ts.map (·.t)) (k:=k) (s:=y.t) (t:=z.t) (by rw[List.getElem?_map,h1];rfl) (by rw[List.getElem?_map,h2];rfl) h);have hall:=ζ (fun (h:xA (x.ts.map (·.t)) x.tl)=>xA.all (l:=x.ts.map (·.t)) (by rw[List.length_map,nM];exact h));have asX:=ζ (fun k y (h:xA (x.ts.map (·.t)) k) (h1:x.ts[k]? = some y) hb ha=>h.succ (t:=y.t) (by rw[List.getElem?_map,h1];rfl) hb ha);generalize Di (x.ts.map (·.t))=TB at *
 generalize JL x.gr=KB at *
 generalize fP x.rc=NB at *
 generalize pG x.n = T1 at *
 generalize pG x.tm=T2 at *
 generalize fieldsU x.eY=FB at *
 clear hR hT hx hgr;obtain⟨rc,gr,n,tm,eY,bA,bm,bk,ts,tA,tl,tk⟩:=x;unfold aj6;simp only at *
 go_enter Tryz.func83,Tryz.ntmps83
 go_wp2_with fail;have bX:=aF.new w 64 #[.string ⟨rc.toArray⟩,.string ⟨gr.toArray⟩,.int .i64 n,.int .i64 tm,.slice bA bm bk,.slice tA tl tk];have NJ:ah w (w.alloc (.cells #[.string ⟨rc.toArray⟩,.string ⟨gr.toArray⟩,.int .i64 n,.int .i64 tm,.slice bA bm bk,.slice tA tl tk] 64)):=(ah.refl w).alloc _;refine (cK.out _ NJ).mono ?_;rintro e w1 ⟨N,rfl,hb1⟩;have bX1:=bX.grows hb1;have gu:=ah.trans NJ hb1;have x0:=bX1.c0;have x1:=bX1.c1;have x2:=bX1.c2;have x3:=bX1.c3;have x4:=bX1.c4;have x5:=bX1.c5;have xl:=bX1.lt;clear hb1 NJ bX;cases KB with
 | false=>
  go_wp2;go_ret;exact⟨rfl,gu⟩
 | true=>
  go_wp2_with fail;refine (cN.out _ gu).mono ?_;rintro e w2 ⟨rfl,hb2⟩;have bX2:=bX1.grows hb2;have fG:=ah.trans gu hb2;have x0:=bX2.c0;have x1:=bX2.c1;have x2:=bX2.c2;have x3:=bX2.c3;have x4:=bX2.c4;have x5:=bX2.c5;have xl:=bX2.lt;clear hb2 gu bX1;cases NB with
  | false=>
   go_wp2;go_ret;exact⟨rfl,fG⟩
  | true=>
   go_wp2_with fail;refine (cT1.out _ fG).mono ?_;rintro e w3 ⟨rfl,hb3⟩;have bX3:=bX2.grows hb3;have qW:=ah.trans fG hb3;have x0:=bX3.c0;have x1:=bX3.c1;have x2:=bX3.c2;have x3:=bX3.c3;have x4:=bX3.c4;have x5:=bX3.c5;have xl:=bX3.lt;clear hb3 fG bX2;cases T1 with
   | false=>
    go_wp2;go_ret;exact⟨rfl,qW⟩
   | true=>
    go_wp2_with fail;refine (cT2.out _ qW).mono ?_;rintro e w4 ⟨rfl,hb4⟩;have bX4:=bX3.grows hb4;have AV:=ah.trans qW hb4;have x0:=bX4.c0;have x1:=bX4.c1;have x2:=bX4.c2;have x3:=bX4.c3;have x4:=bX4.c4;have x5:=bX4.c5;have xl:=bX4.lt;clear hb4 qW bX3;cases T2 with
    | false=>
     go_wp2;go_ret;exact⟨rfl,AV⟩
    | true=>
     go_wp2_with fail;refine (cF.out _ AV).mono ?_;rintro e w5 ⟨rfl,iU⟩;have bX5:=bX4.grows iU;have oV:=ah.trans AV iU;have x0:=bX5.c0;have x1:=bX5.c1;have x2:=bX5.c2;have x3:=bX5.c3;have x4:=bX5.c4;have x5:=bX5.c5;have xl:=bX5.lt;clear iU AV bX4;cases FB with
     | false=>
      go_wp2;go_ret;exact⟨rfl,oV⟩
     | true=>
      by_cases h20:tl≤20
      ·have auR:¬(20:Int)<(tl:Int):=ω;clear cK cN cT1 cT2 cF;clear x0 x1 x2 x3 x4;replace oV:=ζ oV;replace bX5:=ζ bX5;go_wp2;go_loopw [5,6,48] (fun _ _ i wr=>∃k:Nat,k≤tl∧i =.int .i64 (k:Int)∧Hid (xA (ts.map (·.t)) k)∧Hid (ah w5 wr)) (fun _ _ i _=>tl-(intOf i).toNat)
       case atStart=>exact⟨0,ω,rfl,ζ ⟨fun _ _ h=>absurd h ω,fun _ _ _ h=>absurd h ω⟩,ah.refl _⟩
       case round=>
        obtain⟨k,hk,rfl,xQ,Vh⟩:=hrel;by_cases yR:k<tl
        ·obtain⟨bb,off,y,hyA,GK,hy,hcell⟩:=(hts.o.keep (oV.o.trans Vh.o)).at_ yR;subst hyA;have c0:wr.cell? ⟨bb,off+k*3,none⟩=some (.int .u64 (y.t.id:Int)):=hcell 0 _ rfl;have c1:wr.cell? ⟨bb,off+k*3+1,none⟩=some (.bool y.t.kQ):=hcell 1 _ rfl;have c2:wr.cell? ⟨bb,off+k*3+2,none⟩=some (.slice y.A y.m y.k):=hcell 2 _ rfl;have lK:(k:Int)<(tl:Int):=ω;have xO:=List.mem_of_getElem? hy;have hXr:=bX5.out.grows Vh.o;have x5':=hXr.c5;have xlr:=hXr.lt;have I8:=ζ (Vh.o.alloc (.cells #[.int .u64 (y.t.id:Int),.bool y.t.kQ,.slice y.A y.m y.k] 65));have cTy:=ζ (fun V (hV:ah (wr.alloc (.cells #[.int .u64 (y.t.id:Int),.bool y.t.kQ,.slice y.A y.m y.k] 65)) V)=>cT.out y xO V ((oV.o.trans I8.o).trans hV));have hb1:=oG.o k y hy;have hs1:=asX.o k y xQ.o hy;have fU:=ah.refl (wr.alloc (.cells #[.int .u64 (y.t.id:Int),.bool y.t.kQ,.slice y.A y.m y.k] 65));generalize hFU:fieldsU y.t.fs=FU at *
         clear hXr hcell;cases FU with
         | false=>
          have hTB:Hid (TB=false):=ζ (hb1 rfl);clear hb1 hs1 hy;go_wp2_with fail;refine aH κ ?_;refine rK (.range 20) 0 ?_;iterate 2 refine aC ?_
          refine bQ (.bool false) rfl χ (fun wq fU=> ?_) ?_
          ·obtain⟨rC,qE⟩:=dM fU;go_simp;exact Calls.mono (cTy.out wq fU) (fun e w'' h=>h)
          go_simp;iterate 17 refine aC ?_
          refine aB ?_;refine aJ κ (fun wN hN hS=> ?_);have hGN:=oV.o.trans (I8.o.trans hN);go_wp2;go_ret;exact⟨aN (by simp[hTB.o]),hGN⟩
         | true=>
          by_cases GR:0<k
          ·obtain⟨j,rfl⟩:∃j,k=j + 1:=⟨k-1,ω⟩;obtain⟨bb',aah,z,hA',hse,hz,AP⟩:=(hts.o.keep (oV.o.trans Vh.o)).at_ (show j < tl by omega);injection hA' with hA'
           injection hA' with Vl hA2
           subst Vl hA2;have d0:wr.cell? ⟨bb,off+j * 3,none⟩=some (.int .u64 (z.t.id:Int)):=AP 0 _ rfl;have i0:(0:Int)<((j + 1:Nat):Int):=ω;have i1:((j + 1:Nat):Int)-1=(j:Int):=ω;have i2:(j:Int)<(tl:Int):=ω;by_cases hid:z.t.id<y.t.id
           ·have ahK:¬(y.t.id:Int)≤(z.t.id:Int):=ω;have akN:=ζ (hs1 rfl (fun s _ hs=>by
             rw[show j + 1-1=j by omega,List.getElem?_map,hz] at hs;injection hs with hs
             rw[←hs];exact hid))
            clear hb1 hs1 hy hz AP hid;go_wp2_with fail;refine aH κ ?_;refine rK (.range 20) 0 ?_;iterate 2 refine aC ?_
            refine bQ (.bool true) rfl χ (fun wq fU=> ?_) ?_
            ·obtain⟨rC,qE⟩:=dM fU;go_simp;exact Calls.mono (cTy.out wq fU) (fun e w'' h=>h)
            go_simp;iterate 17 refine aC ?_
            refine aB ?_;refine aJ κ (fun wN hN hS=> ?_);have hGN:=ζ (I8.o.trans hN);go_wp2;go_roundw
            case rel=>exact⟨j + 1+1,ω,ν,akN,hGN⟩
            case measure=>exact ψ
           ·have ahK:(y.t.id:Int)≤(z.t.id:Int):=ω;have hTB:Hid (TB=false):=ζ (at6.o j z y hz hy hid);clear hb1 hs1 hy hz AP hid;go_wp2_with fail;refine aH κ ?_;refine rK (.range 20) 0 ?_;iterate 2 refine aC ?_
            refine bQ (.bool true) rfl χ (fun wq fU=> ?_) ?_
            ·obtain⟨rC,qE⟩:=dM fU;go_simp;exact Calls.mono (cTy.out wq fU) (fun e w'' h=>h)
            go_simp;iterate 17 refine aC ?_
            refine aB ?_;refine aJ κ (fun wN hN hS=> ?_);have hGN:=oV.o.trans (I8.o.trans hN);go_wp2;go_ret;exact⟨aN (by simp[hTB.o]),hGN⟩
          ·obtain rfl:k=0:=ω;have akN:=ζ (hs1 rfl (fun s h _=>absurd h ω));simp only[Nat.zero_mul,Nat.add_zero] at c0 c1 c2;clear hb1 hs1 hy;go_wp2_with fail;refine aH κ ?_;refine rK (.range 20) 0 ?_;iterate 2 refine aC ?_
           refine bQ (.bool true) rfl χ (fun wq fU=> ?_) ?_
           ·obtain⟨rC,qE⟩:=dM fU;go_simp;exact Calls.mono (cTy.out wq fU) (fun e w'' h=>h)
           go_simp;iterate 17 refine aC ?_
           refine aB ?_;refine aJ κ (fun wN hN hS=> ?_);have hGN:=ζ (I8.o.trans hN);go_wp2;go_roundw
           case rel=>exact⟨1,ω,ν,akN,hGN⟩
           case measure=>exact ψ
        ·obtain rfl:k=tl:=ω;have hTB:=hall.o xQ.o;go_wp2;go_ret;exact⟨aN (by simp[hTB,h20]),oV.o.trans Vh.o⟩
      ·have auR:(20:Int)<(tl:Int):=ω;go_wp2;go_ret;exact⟨aN (by simp[h20]),oV⟩
def KW (ft:List bK→d_→Bool) (p:aY):Prop:=∀r∈p.i,(∀y∈r.i.wh,pq ft y)∧∀y∈r.i.from_,pq ft y
def aoe (o:Option jq) (F:jq→List Nat):List Nat:=match o with
 | none=>[]
 | some c=>F c
theorem nJ.grows {w w':World} {b:Nat} {o:Option jq} {v:Value} (h:nJ w b o v) (hg:ah w w'):nJ w' b o v:=by
 cases o with
 | none=>exact h
 | some a=>obtain⟨A,c,e,hO⟩:=h;exact⟨A,c,e,hO.grows hg⟩
theorem nJ.bH {w:World} {b b':Nat} {o:Option jq} {v:Value} (h:nJ w b o v) (hb:b'≤b):nJ w b' o v:=by
 cases o with
 | none=>exact h
 | some a=>obtain⟨A,c,e,hO⟩:=h;exact⟨A,c,e,hO.bH hb⟩
theorem nJ.far {w:World} {b g n:Nat} {o:Option jq} {v:Value} {cs:Array Value} (h:nJ w b o v) (hB:aF w g 57 cs) (u:Value):nJ (w.setCell ⟨g,n,none⟩ u) b o v:=by
 cases o with
 | none=>exact h
 | some a=>
  obtain⟨A,c,e,hO⟩:=h;exact⟨A,c,e,hO.kept' (aj w ⟨g,n,none⟩ u) (fun j hj=>by injection hj with hj;subst hj;exact aV hO hB δ)⟩
def avh (wr:World) (base:Nat) (CU:Option jq) (sp sk:Nat) (f:Nat→Value) (wz:World):Prop:=
 ∃(gc:Nat) (s:ByteArray) (A:Option Addr) (m k:Nat) (lv c f' t:Int),f sp=.pointer (some ⟨gc,0,none⟩)∧f sk=.bool CU.isSome∧
  aF wz gc 57 #[.string s,.slice A m k,.int .i64 lv,.int .u32 c,.int .i64 f',.int .i64 t]∧nJ wz base CU (.agg #[.string s,.slice A m k,.int .i64 lv,.int .u32 c,.int .i64 f',.int .i64 t])∧ah wr wz∧wr.heap.size≤gc
theorem V7 {fb:d_→Bool} {ft:List bK→d_→Bool} {p:aY} {tO:jU} {lA:Option Addr} {lm lk:Nat} {xs:List dH} {now:Int} {k:Nat} {x:dH} (w:World) (hp:p.At w) (nN:jc fb p) (Ez:KW ft p) (hib:∀r∈p.i,r.bm≤1000000) (TD:p.im≤1000)
 (hA:cu w 6 sG lA lm xs) (hat:∀a∈xs,a.At w) (Iw:lm≤1000) (xQ:tO.ok) (hk:xs[k]? = some x) :
 Calls Tryz.prog 99 #[p.val,.slice lA lm lk,.int .i64 (k:Int),.agg #[.int .i64 tO.lv,.int .u32 (tO.c:Int)],.int .i64 now] w fun e w'=>∃v,e =.returned v∧Own w' w.heap.size 3 1 encI v (yC fb ft p.aU (xs.map (·.a)) k tO now)∧ah w w':=by
 have yN:=List.mem_of_getElem? hk;have hxA:=hat x yN;have cR:=ζ (fun W (hW:ah w W)=>sK W (hxA.keep hW));have cK:=ζ (fun W (hW:ah w W)=>vN W (hp.keep hW) nN);have cC:=ζ (fun W (hW:ah w W)=>DY W (hp.keep hW) (hxA.keep hW) xQ);have cI:=ζ (fun (hr:bJ x.a = true) W (hW:ah w W)=>Qo W (hxA.arr.keep hW) (by have:=(eU hr).1;omega) (by have:=(eU hr).2.1;have h2:=hxA.arr.1;omega) (fun f hf=>((eU hr).2.2 f hf).1));have cF:=ζ (fun (r:xC) (hr:r∈p.i) W=>wR r.i.l tO W (hp.iAt r hr).U_ xQ);have cB:=ζ (fun (r:xC) (hr:r∈p.i) (c:dH) (id:Nat) W (hW:ah w W) (hc:cu W 2 eu c.A c.m c.a.fs) (hcm:c.m≤1000) (hcT:∀f∈c.a.fs,f.v.length≤1000000)=>
  aay (ft:=ft) (lk:=lk) (now:=now) (id:=id) W ((hp.iAt r hr).keep hW) (hib r hr) hc hcm hcT (hA.keep hW) (fun a ha=>(hat a ha).keep hW) Iw (Ez r hr).1 (Ez r hr).2)
 have OG:=hp.i;have ak9:k<lm:=by rw[←hA.1];exact (List.getElem?_eq_some_iff.1 hk).1
 obtain⟨xb,xo,x',hxp,hxb,BK,Xe⟩:=hA.at_ ak9;rw[hk] at BK;injection BK with BK
 subst BK;have hQ:yC fb ft p.aU (xs.map (·.a)) k tO now=if bJ x.a then (if fQ fb p.aU=0 then aoe (kC p.aU x.a tO) (fun c=>zN ft p.aU (xs.map (·.a)) (yg x.a) c tO now p.im) else []) else []:=by
  have e1:(xs.map (·.a))[k]? = some x.a:=by rw[List.getElem?_map,hk];rfl
  have e2:p.aU.pO.length=p.im:=by
   show (p.i.map (·.i)).length=_
   rw[List.length_map,OG.1]
  unfold yC zN;rw[e1];simp only[e2];rfl
 have OH:bJ x.a = true→∀c,kC p.aU x.a tO=some c→(∀f∈c.fs,f.v.length≤1000000)∧c.fs.length≤1000:=fun hr c hc=>by
  have h1:=eU hr;have h3:=mG p.aU x.a.fs x.a.l tO;unfold kC at hc;split at hc
  ·cases hc
  ·injection hc with hc
   subst hc;exact⟨fun f hf=>by have:=(h1.2.2 f (List.mem_filter.1 hf).1).2;omega,by simp only;omega⟩
 have hst:=ζ (fun (c:jq) j (r:xC) b (hr:p.i[j]? = some r) (h:(jB r.i.l tO&&byI ft r.i (xs.map (·.a)) (yg x.a) c now)=b)=>W_ (ft:=ft) (p:=p.aU) (l:=xs.map (·.a)) (id:=yg x.a) (c:=c) (tO:=tO) (now:=now) (k:=j) (b:=b) (by
  unfold YD;have e:p.aU.pO[j]? = some r.i:=by
   show (p.i.map (·.i))[j]? = _
   rw[List.getElem?_map,hr];rfl
  rw[e];exact h))
 have Ru:=ζ (fun (c:jq) j=>aax ft p.aU (xs.map (·.a)) (yg x.a) c tO now j);have OO:Hid (∀c:jq,zN ft p.aU (xs.map (·.a)) (yg x.a) c tO now 0=[]):=ζ (fun c=>rfl);generalize zN ft p.aU (xs.map (·.a)) (yg x.a)=FF at *
 generalize yC fb ft p.aU (xs.map (·.a)) k tO now=Q at *
 generalize kC p.aU x.a tO=CU at *
 generalize fQ fb p.aU=CK at *
 generalize hID:yg x.a = ID at *
 generalize hAB:bJ x.a = AB at *
 have hs0:w.cell? ⟨xb,xo+k*6,none⟩=some (.string ⟨x.a.src.toArray⟩):=Xe 0 _ rfl;have hs1:w.cell? ⟨xb,xo+k*6+1,none⟩=some (.slice x.A x.m x.k):=Xe 1 _ rfl;have hs2:w.cell? ⟨xb,xo+k*6+2,none⟩=some (.int .i64 x.a.l.lv):=Xe 2 _ rfl;have hs3:w.cell? ⟨xb,xo+k*6+3,none⟩=some (.int .u32 (x.a.l.c:Int)):=Xe 3 _ rfl;have hs4:w.cell? ⟨xb,xo+k*6+4,none⟩=some (.int .i64 x.a.f):=Xe 4 _ rfl;have hs5:w.cell? ⟨xb,xo+k*6+5,none⟩=some (.int .i64 x.a.t):=Xe 5 _ rfl;have lK:(k:Int)<(lm:Int):=ω;subst hxp;replace OG:=ζ OG;replace OH:=ζ OH;replace hQ:=ζ hQ;clear hp nN Ez hib hA hat hxA yN Xe hk;unfold aY.val iT at *
 obtain⟨⟨sl,sA,sm,sk⟩,⟨rl,rA,rm,rk⟩,⟨el,eA,em,ek⟩,⟨al,aA,am,ak⟩,o,oA,om,ok,i,iA,im,ik⟩:=p;obtain⟨⟨src,fs,⟨lv,lc⟩,f,t⟩,A,m,k0⟩:=x;simp only at *
 have GR:¬(k:Int)<0:=ω;have Ey:¬lm≤k:=ω;go_enter Tryz.func99,Tryz.ntmps99
 go_wp2_with fail;refine (cR.out _ γ).mono ?_;rintro e w1 ⟨rfl,hb1⟩;have bP:=(((aF.new w 50 #[.slice sA sm sk,.slice rA rm rk,.slice eA em ek,.slice aA am ak,.slice oA om ok,.slice iA im ik]).alloc (.cells #[.int .i64 tO.lv,.int .u32 (tO.c:Int)] 25)).grows hb1);have bL:=((aF.ou w (.cells #[.slice sA sm sk,.slice rA rm rk,.slice eA em ek,.slice aA am ak,.slice oA om ok,.slice iA im ik] 50) 25 #[.int .i64 tO.lv,.int .u32 (tO.c:Int)]).grows hb1);have gu:=((((ah.refl w).alloc (.cells #[.slice sA sm sk,.slice rA rm rk,.slice eA em ek,.slice aA am ak,.slice oA om ok,.slice iA im ik] 50)).alloc (.cells #[.int .i64 tO.lv,.int .u32 (tO.c:Int)] 25)).trans hb1);replace hs0:=gu.cell hs0;replace hs1:=gu.cell hs1;replace hs2:=gu.cell hs2;replace hs3:=gu.cell hs3;replace hs4:=gu.cell hs4;replace hs5:=gu.cell hs5;replace hxb:=Nat.lt_of_lt_of_le hxb gu.size;have hsz:=gu.size;clear hb1 cR;cases AB with
 | false=>
  go_wp2;go_ret;exact⟨_,rfl,by rw[hQ.o];exact Own.jA _ _ _ _ _,gu⟩
 | true=>
  have p0:=bP.c0;have p1:=bP.c1;have p2:=bP.c2;have p3:=bP.c3;have p4:=bP.c4;have p5:=bP.c5;have pl:=bP.lt;go_wp2_with fail;refine (cK.out _ gu).mono ?_;rintro e w2 ⟨rfl,hb2⟩;replace bP:=bP.grows hb2;replace bL:=bL.grows hb2;have fG:=gu.trans hb2;replace hs0:=hb2.cell hs0;replace hs1:=hb2.cell hs1;replace hs2:=hb2.cell hs2;replace hs3:=hb2.cell hs3;replace hs4:=hb2.cell hs4;replace hs5:=hb2.cell hs5;replace hxb:=Nat.lt_of_lt_of_le hxb hb2.size;replace hsz:=fG.size;clear hb2 cK gu p0 p1 p2 p3 p4 p5 pl;by_cases zH:CK=0
  ·subst zH;replace hQ:Hid (Q=aoe CU fun c=>FF c tO now im):=ζ (by rw[hQ.o];simp);have p0:=bP.c0;have p1:=bP.c1;have p2:=bP.c2;have p3:=bP.c3;have p4:=bP.c4;have p5:=bP.c5;have pl:=bP.lt;have l0:=bL.c0;have l1:=bL.c1;have ll:=bL.lt;have aS:=ζ (ah.refl w2);replace bP:=ζ bP;replace bL:=ζ bL;replace fG:=ζ fG;go_wp2_with fail;apply IV (is:=[45,38,46,47,11,12]) (R:=avh w2 w.heap.size CU 11 12)
   case h1=>
    refine aH κ ?_;refine rK (.range 6) 7 ?_;iterate 6 refine aC ?_
    refine aB ?_;refine aK [6,10] κ σ (fun wN hN hS=>(ay.cons rfl (fun K' hK=> ?_) (ay.cons rfl (fun K' hK=> ?_) ay.nil)))
    ·skip
     try replace fV:=ζ (fV.o.grows hN)
     try replace mZ:=ζ (mZ.o.grows hN)
     try replace aS:=ζ (aS.o.trans hN)
     clear hN;go_simp;refine (cC.out _ (fG.o.trans aS.o)).mono ?_;rintro e w5 ⟨v5,rfl,hv5,iU⟩;have mZ:=ζ (hv5.bH (b':=w.heap.size) (by have:=(fG.o.trans aS.o).size;omega));obtain⟨vs,vA,vm,vk,Vt,vc,vf,vt,rfl⟩:=nJ.form hv5;try replace fV:=ζ (fV.o.grows iU)
     replace aS:=ζ (aS.o.trans iU);refine hK.o _ _ ?_ (fun hS=> ?_)
     ·exact aS.o
     clear iU hv5;clear hK hS;refine rK [7,8,9] 3 ?_;iterate 3 refine aC ?_
     refine aB ?_;refine aK [10] κ σ (fun wN hN hS=>(ay.cons rfl (fun K' hK=> ?_) ay.nil));try replace fV:=ζ (fV.o.grows hN)
     try replace mZ:=ζ (mZ.o.grows hN)
     try replace aS:=ζ (aS.o.trans hN)
     clear hN;go_simp;have fV:=ζ (aF.new wN 57 zK);have AA:Hid (w2.heap.size≤wN.heap.size):=ζ aS.o.size;replace aS:=ζ (aS.o.alloc (.cells zK 57));try replace mZ:=ζ (mZ.o.grows ((ah.refl wN).alloc (.cells zK 57)))
     refine hK.o _ _ ?_ (fun hS=> ?_)
     ·exact aS.o
     generalize wN.heap.size=gc at *
     clear hK hS;refine aK [11] κ σ (fun wN hN hS=>(ay.cons rfl (fun K' hK=> ?_) ay.nil));try replace fV:=ζ (fV.o.grows hN)
     try replace mZ:=ζ (mZ.o.grows hN)
     try replace aS:=ζ (aS.o.trans hN)
     clear hN;have b0:=fV.o;have k0:=mZ.o;have g0:=aS.o;have b1:=b0.aW 0 (.string vs);have k1:=k0.far (n:=0) b0 (.string vs);have g1:=g0.setCell (p:=⟨gc,0,none⟩) AA.o (.string vs);have b2:=b1.aW 1 (.slice vA vm vk);have k2:=k1.far (n:=1) b1 (.slice vA vm vk);have g2:=g1.setCell (p:=⟨gc,1,none⟩) AA.o (.slice vA vm vk);have b3:=b2.aW 2 (.int .i64 Vt);have k3:=k2.far (n:=2) b2 (.int .i64 Vt);have g3:=g2.setCell (p:=⟨gc,2,none⟩) AA.o (.int .i64 Vt);have b4:=b3.aW 3 (.int .u32 vc);have k4:=k3.far (n:=3) b3 (.int .u32 vc);have g4:=g3.setCell (p:=⟨gc,3,none⟩) AA.o (.int .u32 vc);have b5:=b4.aW 4 (.int .i64 vf);have k5:=k4.far (n:=4) b4 (.int .i64 vf);have g5:=g4.setCell (p:=⟨gc,4,none⟩) AA.o (.int .i64 vf);have b6:=b5.aW 5 (.int .i64 vt);have k6:=k5.far (n:=5) b5 (.int .i64 vt);have g6:=g5.setCell (p:=⟨gc,5,none⟩) AA.o (.int .i64 vt);obtain⟨z0,z1,z2,z3,z4,z5,zf,zl⟩:=nU fV.o;have fV:=ζ b6;have mZ:=ζ k6;have aS:=ζ g6;clear b0 k0 g0 b1 k1 g1 b2 k2 g2 b3 k3 g3 b4 k4 g4 b5 k5 g5 b6 k6 g6;go_simp;refine hK.o _ _ ?_ (fun hS=> ?_)
     ·exact aS.o
     clear z0 z1 z2 z3 z4 z5 zf zl;generalize ((((((wN.setCell ⟨gc,0,none⟩ (.string vs)).setCell ⟨gc,1,none⟩ (.slice vA vm vk)).setCell ⟨gc,2,none⟩ (.int .i64 Vt)).setCell ⟨gc,3,none⟩ (.int .u32 vc)).setCell ⟨gc,4,none⟩ (.int .i64 vf)).setCell ⟨gc,5,none⟩ (.int .i64 vt))=w9 at *
     clear hK hS;refine rK [12] 0 ?_;iterate 1 refine aC ?_
     refine aB ?_;refine aJ κ (fun wN hN hS=> ?_);try replace fV:=ζ (fV.o.grows hN)
     try replace mZ:=ζ (mZ.o.grows hN)
     try replace aS:=ζ (aS.o.trans hN)
     refine⟨(by
      simp only[fZ,List.foldl_cons,List.foldl_nil];go_simp;try rfl
     ),gc,vs,vA,vm,vk,Vt,vc,vf,vt,rfl,rfl,fV.o,mZ.o,aS.o,AA.o⟩
    ·skip
     try replace fV:=ζ (fV.o.grows hN)
     try replace mZ:=ζ (mZ.o.grows hN)
     try replace aS:=ζ (aS.o.trans hN)
     clear hN;go_simp;have fV:=ζ (aF.new wN 57 zK);have AA:Hid (w2.heap.size≤wN.heap.size):=ζ aS.o.size;replace aS:=ζ (aS.o.alloc (.cells zK 57));try replace mZ:=ζ (mZ.o.grows ((ah.refl wN).alloc (.cells zK 57)))
     refine hK.o _ _ ?_ (fun hS=> ?_)
     ·exact aS.o
     generalize wN.heap.size=gc at *
     clear hK hS;refine aK [6] κ σ (fun wN hN hS=>(ay.cons rfl (fun K' hK=> ?_) ay.nil));try replace fV:=ζ (fV.o.grows hN)
     try replace mZ:=ζ (mZ.o.grows hN)
     try replace aS:=ζ (aS.o.trans hN)
     clear hN;go_simp;refine (cC.out _ (fG.o.trans aS.o)).mono ?_;rintro e w5 ⟨v5,rfl,hv5,iU⟩;have mZ:=ζ (hv5.bH (b':=w.heap.size) (by have:=(fG.o.trans aS.o).size;omega));obtain⟨vs,vA,vm,vk,Vt,vc,vf,vt,rfl⟩:=nJ.form hv5;try replace fV:=ζ (fV.o.grows iU)
     replace aS:=ζ (aS.o.trans iU);refine hK.o _ _ ?_ (fun hS=> ?_)
     ·exact aS.o
     clear iU hv5;clear hK hS;refine rK [7,8,9] 2 ?_;iterate 3 refine aC ?_
     refine aB ?_;refine aK [11] κ σ (fun wN hN hS=>(ay.cons rfl (fun K' hK=> ?_) ay.nil));try replace fV:=ζ (fV.o.grows hN)
     try replace mZ:=ζ (mZ.o.grows hN)
     try replace aS:=ζ (aS.o.trans hN)
     clear hN;have b0:=fV.o;have k0:=mZ.o;have g0:=aS.o;have b1:=b0.aW 0 (.string vs);have k1:=k0.far (n:=0) b0 (.string vs);have g1:=g0.setCell (p:=⟨gc,0,none⟩) AA.o (.string vs);have b2:=b1.aW 1 (.slice vA vm vk);have k2:=k1.far (n:=1) b1 (.slice vA vm vk);have g2:=g1.setCell (p:=⟨gc,1,none⟩) AA.o (.slice vA vm vk);have b3:=b2.aW 2 (.int .i64 Vt);have k3:=k2.far (n:=2) b2 (.int .i64 Vt);have g3:=g2.setCell (p:=⟨gc,2,none⟩) AA.o (.int .i64 Vt);have b4:=b3.aW 3 (.int .u32 vc);have k4:=k3.far (n:=3) b3 (.int .u32 vc);have g4:=g3.setCell (p:=⟨gc,3,none⟩) AA.o (.int .u32 vc);have b5:=b4.aW 4 (.int .i64 vf);have k5:=k4.far (n:=4) b4 (.int .i64 vf);have g5:=g4.setCell (p:=⟨gc,4,none⟩) AA.o (.int .i64 vf);have b6:=b5.aW 5 (.int .i64 vt);have k6:=k5.far (n:=5) b5 (.int .i64 vt);have g6:=g5.setCell (p:=⟨gc,5,none⟩) AA.o (.int .i64 vt);obtain⟨z0,z1,z2,z3,z4,z5,zf,zl⟩:=nU fV.o;have fV:=ζ b6;have mZ:=ζ k6;have aS:=ζ g6;clear b0 k0 g0 b1 k1 g1 b2 k2 g2 b3 k3 g3 b4 k4 g4 b5 k5 g5 b6 k6 g6;go_simp;refine hK.o _ _ ?_ (fun hS=> ?_)
     ·exact aS.o
     clear z0 z1 z2 z3 z4 z5 zf zl;generalize ((((((wN.setCell ⟨gc,0,none⟩ (.string vs)).setCell ⟨gc,1,none⟩ (.slice vA vm vk)).setCell ⟨gc,2,none⟩ (.int .i64 Vt)).setCell ⟨gc,3,none⟩ (.int .u32 vc)).setCell ⟨gc,4,none⟩ (.int .i64 vf)).setCell ⟨gc,5,none⟩ (.int .i64 vt))=w9 at *
     clear hK hS;refine rK [12] 0 ?_;iterate 1 refine aC ?_
     refine aB ?_;refine aJ κ (fun wN hN hS=> ?_);try replace fV:=ζ (fV.o.grows hN)
     try replace mZ:=ζ (mZ.o.grows hN)
     try replace aS:=ζ (aS.o.trans hN)
     refine⟨(by
      simp only[fZ,List.foldl_cons,List.foldl_nil];go_simp;try rfl
     ),gc,vs,vA,vm,vk,Vt,vc,vf,vt,rfl,rfl,fV.o,mZ.o,aS.o,AA.o⟩
   intro fz w3 hR;obtain⟨gc,vs,vA,vm,vk,Vt,vc,vf,vt,e11,e12,fV,mZ,hb3,AA⟩:=hR;simp only[kJ,List.foldl_cons,List.foldl_nil,e11,e12];replace bP:=ζ (bP.out.grows hb3);replace bL:=ζ (bL.out.grows hb3);have qW:=ζ (fG.o.trans hb3);replace hs0:=hb3.cell hs0;replace hs1:=hb3.cell hs1;replace hs2:=hb3.cell hs2;replace hs3:=hb3.cell hs3;replace hs4:=hb3.cell hs4;replace hs5:=hb3.cell hs5;replace hxb:=Nat.lt_of_lt_of_le hxb hb3.size;replace fV:=ζ fV;have aaF:=qW.o.size;clear hb3 aS p0 p1 p2 p3 p4 p5 pl l0 l1 ll cC fG hsz e11 e12;cases CU with
   | none=>
    simp only[Option.isSome_none];go_wp2;go_ret;exact⟨_,rfl,by rw[hQ.o];exact Own.jA _ _ _ _ _,qW.o⟩
   | some c=>
    obtain⟨cA,ck,hce,jY⟩:=mZ;unfold iT at hce;simp only[Value.agg.injEq,Array.mk.injEq,List.cons.injEq,and_true,Value.string.injEq,Value.slice.injEq,Value.int.injEq,true_and] at hce;obtain⟨rfl,⟨rfl,rfl,rfl⟩,rfl,rfl,rfl,rfl⟩:=hce;obtain⟨hcT,rZ⟩:=OH.o (by first | exact trivial | rfl) c rfl;obtain⟨A',c',hcv,-,-,hX⟩:=jY.arr GN;simp only[Value.slice.injEq,true_and] at hcv;obtain⟨rfl,rfl⟩:=hcv;have asY:=ζ (fun j r b h1 h2=>hst.o c j r b h1 h2);have atq:=ζ (fun j=>Ru.o c j);have auT:FF c tO now 0=[]:=OO.o c;have hQ1:Hid (Q=FF c tO now im):=hQ;have cB1:=ζ (fun (r:xC) (hr:r∈i) W (hW:ah w W) (hX:cu W 2 eu vA c.fs.length c.fs)=>cB.out r hr ⟨c,vA,c.fs.length,vk⟩ ID W hW hX rZ hcT);have cI1:=ζ (cI.out (by first | exact trivial | rfl) _ qW.o);clear hst Ru OO hQ OH cB cI;obtain⟨DZ,Jc,⟨Y1,clc⟩,cf0,ct0⟩:=c;simp only[Option.isSome_some] at *
    generalize QL:Jc.length=L at *
    replace QL:=ζ QL;replace hX:=ζ hX;generalize hFF:FF ⟨DZ,Jc,⟨Y1,clc⟩,cf0,ct0⟩ tO now=F at *
    clear hFF hcT jY;go_wp2_with fail;refine cI1.out.mono ?_;rintro e w4 ⟨rfl,hb4⟩;replace bP:=ζ (bP.out.grows hb4);replace bL:=ζ (bL.out.grows hb4);replace fV:=ζ (fV.o.grows hb4);replace hX:=ζ (hX.o.keep hb4);have AV:=ζ (qW.o.trans hb4);have ahx:=AV.o.size;have ayA:=fV.o.lt;have p5:=bP.out.c5;have pl:=bP.out.lt;clear cI1 hb4 hs0 hs1 hs2 hs3 hs4 hs5 hxb qW aaF AA;go_wp2;go_loopw [13,15,16,58] (fun v _ _ n wr=>∃j:Nat,j≤im∧n =.int .i64 (j:Int)∧Hid (Own wr w4.heap.size 3 1 encI v (F j))∧Hid (ah w4 wr)) (fun _ _ _ n _=>im-(intOf n).toNat)
    case atStart=>exact⟨0,ω,rfl,by rw[auT];exact Own.jA _ _ _ _ _,ζ (ah.refl _)⟩
    case round=>
     obtain⟨j,hj,rfl,hO,Vh⟩:=hrel;by_cases hjm:j < im
     ·obtain⟨bb,off,r,hiA,GK,hr,hcell⟩:=(OG.o.keep (AV.o.trans Vh.o)).at_ hjm;subst hiA;have c0:wr.cell? ⟨bb,off+j * 5,none⟩=some (.slice r.bA r.bm r.bk):=hcell 0 _ rfl;have c1:wr.cell? ⟨bb,off+j * 5+1,none⟩=some (.int .i64 r.i.l.lv):=hcell 1 _ rfl;have c2:wr.cell? ⟨bb,off+j * 5+2,none⟩=some (.int .u32 (r.i.l.c:Int)):=hcell 2 _ rfl;have c3:wr.cell? ⟨bb,off+j * 5+3,none⟩=some (.slice r.fA r.fm r.fk):=hcell 3 _ rfl;have c4:wr.cell? ⟨bb,off+j * 5+4,none⟩=some (.slice r.wA r.wm r.wk):=hcell 4 _ rfl;have Rw:(j:Int)<(im:Int):=ω;have hrm:=List.mem_of_getElem? hr;have hs1:=asY.o j r;have cFr:=cF.out r hrm;have cBr:=cB1.out r hrm;have hl1:=bL.out.grows Vh.o;have l0:=hl1.c0;have l1:=hl1.c1;have ll:=hl1.lt;have hlk:=atq.o j;unfold RN at cBr;generalize byI ft r.i (xs.map (·.a)) ID ⟨DZ,Jc,⟨Y1,clc⟩,cf0,ct0⟩ now=BY at *
      generalize jB r.i.l tO=FW at *
      replace hs1:=ζ (hs1 _ hr rfl);replace cFr:=ζ cFr;replace cBr:=ζ cBr;replace hlk:=ζ hlk;have ayx:=Vh.o.size;clear hcell hl1 hr hrm;go_wp2_with fail;refine (cFr.out _).mono ?_;rintro e w5 ⟨rfl,iU⟩;have oV:=ζ ((Vh.o.alloc (.cells #[.slice r.bA r.bm r.bk,.int .i64 r.i.l.lv,.int .u32 (r.i.l.c:Int),.slice r.fA r.fm r.fk,.slice r.wA r.wm r.wk] 77)).trans iU);have mY:=ζ ((hO.o.alloc (.cells #[.slice r.bA r.bm r.bk,.int .i64 r.i.l.lv,.int .u32 (r.i.l.c:Int),.slice r.fA r.fm r.fk,.slice r.wA r.wm r.wk] 77)).grows iU);have hR5:=(aF.new wr 77 #[.slice r.bA r.bm r.bk,.int .i64 r.i.l.lv,.int .u32 (r.i.l.c:Int),.slice r.fA r.fm r.fk,.slice r.wA r.wm r.wk]).grows iU;clear iU c0 c1 c2 c3 c4 l0 l1 ll Vh hO cFr;cases FW with
      | false=>
       have hF:Hid (F (j + 1)=F j):=ζ (by rw[hs1.o];simp);go_wp2;go_roundw
       case rel=>exact⟨j + 1,ω,ν,by rw[hF.o];exact mY,oV⟩
       case measure=>exact ψ
      | true=>
       have r0:=hR5.c0;have r1:=hR5.c1;have r2:=hR5.c2;have r3:=hR5.c3;have r4:=hR5.c4;have rl:=hR5.lt;have hk5:=fV.o.grows oV.o;have a0:=hk5.c0;have a1:=hk5.c1;have a2:=hk5.c2;have a3:=hk5.c3;have a4:=hk5.c4;have a5:=hk5.c5;have al:=hk5.lt;clear hR5 hk5;go_wp2_with fail;refine (cBr.out _ (AV.o.trans oV.o) (hX.o.keep oV.o)).mono ?_;rintro e w6 ⟨rfl,sZ⟩;have GV:=ζ (oV.o.trans sZ);have uF:=ζ (mY.o.grows sZ);have ahw:=GV.o.size;clear sZ r0 r1 r2 r3 r4 rl a0 a1 a2 a3 a4 a5 al oV mY cBr;cases BY with
       | false=>
        have hF:Hid (F (j + 1)=F j):=ζ (by rw[hs1.o];simp);go_wp2;go_roundw
        case rel=>exact⟨j + 1,ω,ν,by rw[hF.o];exact uF,GV⟩
        case measure=>exact ψ
       | true=>
        have hF:Hid (F (j + 1)=F j ++[j]):=ζ (by rw[hs1.o];simp);go_wp2_with (at_builtin;refine gy (x:=j) amc rfl (.tmp 75) (.tmp 77) rfl (uF.o.alloc _) rfl ⟨w6.heap.size,0,none⟩ rfl rfl (lJ (by exact heap_alloc_new w6 _)) (ahe j) (by simp;omega) (by have:=hlk.o;unfold maxLen;omega) (by have:=hlk.o;omega) (fun v7 w7 vT hgr FQ=> ?_);(have hG7:=ζ ((GV.o.alloc _).aP hgr (fun g hg=>uF.o.fH g hg)));(replace vT:=ζ vT);clear hgr FQ);go_roundw
        case rel=>exact⟨j + 1,ω,ν,by rw[hF.o];exact vT,hG7⟩
        case measure=>exact ψ
     ·obtain rfl:j = im:=ω;go_wp2;go_ret;exact⟨_,rfl,by rw[hQ1.o];exact hO.o.bH ω,AV.o.trans Vh.o⟩
  ·go_wp2;go_ret;have YR:Q=[]:=by rw[hQ.o];simp[zH]
   exact⟨_,rfl,by rw[YR];exact Own.jA _ _ _ _ _,fG⟩
def yD (p:jo) (l:List jq) (id:Nat) (tt:jU) (now:Int) (k:Nat):List (Bool×List bK):=(l.take k).filterMap (qQ p id tt now)
def jw (p:jo) (l:List jq) (id:Nat) (tt:jU) (now:Int) (k:Nat) (o:Option qH):Prop:=(∀c∈yD p l id tt now k,c.1=false)∧match o with
 | none=>yD p l id tt now k=[]
 | some x=>x.t.id=id∧x.t.kQ=false∧(yD p l id tt now k).head? =some (false,x.t.fs)
section
variable {p:jo} {l:List jq} {id:Nat} {tt:jU} {now:Int} {k:Nat} {o:Option qH} {a:jq}
theorem wF (hr:l[k]? = some a):yD p l id tt now (k+1)=yD p l id tt now k++(qQ p id tt now a).toList:=by
 unfold yD;rw[List.take_add_one,hr,List.filterMap_append];simp only[Option.toList_some];rw[List.filterMap_cons];cases qQ p id tt now a <;> simp
theorem jw.start:jw p l id tt now 0 none:=⟨fun c hc=>by simp[yD] at hc,by simp[yD]⟩
theorem jw.skip (h:jw p l id tt now k o) (hr:l[k]? = some a) (hc:qQ p id tt now a = none):jw p l id tt now (k+1) o:=by
 unfold jw at *
 rw[wF hr,hc];simpa using h
theorem jw.first (h:jw p l id tt now k none) (hr:l[k]? = some a) {fs:List bK} (hc:qQ p id tt now a = some (false,fs)) {x:qH} (hx:x.t = ⟨id,false,fs⟩):jw p l id tt now (k+1) (some x):=by
 unfold jw at *
 rw[wF hr,hc,h.2];simp[hx]
theorem jw.more {x:qH} (h:jw p l id tt now k (some x)) (hr:l[k]? = some a) {fs:List bK} (hc:qQ p id tt now a = some (false,fs)):jw p l id tt now (k+1) (some x):=by
 obtain⟨h1,h2,h3,h4⟩:=h;refine⟨?_,h2,h3,?_⟩
 ·rw[wF hr,hc];intro c hcm;rcases List.mem_append.1 hcm with hcm | hcm
  ·exact h1 c hcm
  ·simp at hcm;rw[hcm]
 ·rw[wF hr,hc];rw[List.head?_append,h4];rfl
theorem Kt {S:List (Bool×List bK)} (h:∀c∈S,c.1=false):S.find? (·.1)=none:=by
 rw[List.find?_eq_none];intro x hx;rw[h x hx];simp
theorem jw.fire (h:jw p l id tt now k o) (hr:l[k]? = some a) {fs:List bK} (hc:qQ p id tt now a = some (true,fs)):Fg p l id tt now=some ⟨id,true,fs⟩:=by
 have e:l.filterMap (qQ p id tt now)=yD p l id tt now k++(true,fs)::(l.drop (k+1)).filterMap (qQ p id tt now):=by
  have hk:=(List.getElem?_eq_some_iff.1 hr).1;have hd:l.drop k=a ::l.drop (k+1):=by
   rw[List.drop_eq_getElem_cons hk];rw[List.getElem?_eq_getElem hk] at hr;injection hr with hr
   rw[hr]
  conv=>lhs;rw[←List.take_append_drop k l]
  rw[List.filterMap_append,hd,List.filterMap_cons,hc];rfl
 unfold Fg;rw[e,List.find?_append,Kt h.1];simp
theorem jw.done (h:jw p l id tt now l.length o):Fg p l id tt now=o.map (·.t):=by
 have e:l.filterMap (qQ p id tt now)=yD p l id tt now l.length:=by unfold yD;rw[List.take_length]
 unfold Fg;rw[e,Kt h.1];obtain⟨h1,h2⟩:=h;cases o with
 | none=>simp only at h2;rw[h2];rfl
 | some x=>
  obtain⟨h3,h4,h5⟩:=h2;rw[h5];obtain⟨⟨i,f,s⟩,A,m,k⟩:=x;simp only at h3 h4;subst h3 h4;rfl
end
def oL (w:World) (base:Nat) (x:qH):Prop:=Own w base 88 2 eu (.slice x.A x.m x.k) x.t.fs∧x.m≤1000∧∀f∈x.t.fs,f.v.length≤1000000
theorem oL.grows {w w':World} {base:Nat} {x:qH} (h:oL w base x) (hg:ah w w'):oL w' base x:=⟨h.1.grows hg,h.2⟩
theorem oL.bH {w:World} {base b:Nat} {x:qH} (h:oL w base x) (hb:b≤base):oL w b x:=⟨h.1.bH hb,h.2⟩
theorem oL.eY {w w':World} {base:Nat} {x:qH} {row:Option Nat} (h:oL w base x) (hg:w.grownBy w' row) (hr:∀j,row=some j→(Value.slice x.A x.m x.k).ownBlock≠some j):oL w' base x:=⟨h.1.kept' hg hr,h.2⟩
theorem oL.far {w:World} {base g i:Nat} {x:qH} {t:TypeId} {cs:Array Value} (h:oL w base x) (hB:aF w g t cs) (ht:88≠t) (u:Value):oL (w.setCell ⟨g,i,none⟩ u) base x:=
 h.eY (aj w ⟨g,i,none⟩ u) (fun j hj=>by injection hj with hj;subst hj;exact aV h.1 hB ht)
theorem oL.at_ {w:World} {base:Nat} {x:qH} (h:oL w base x):x.At w:=by
 obtain⟨A,c,hv,-,-,hX⟩:=h.1.arr GN;injection hv with h1 h2 h3
 subst h1 h3;exact⟨by rw[h2];exact hX,h.2.1,h.2.2⟩
def MV (o:Option qH):Array Value:=match o with
 | none=> #[.int .u64 0,.bool false,.slice none 0 0]
 | some x=> #[.int .u64 (x.t.id:Int),.bool x.t.kQ,.slice x.A x.m x.k]
theorem NZ (o:Option qH):∃(i:Int) (b:Bool) (A:Option Addr) (m k:Nat),MV o = #[.int .u64 i,.bool b,.slice A m k]:=by cases o <;> exact⟨_,_,_,_,_,rfl⟩
theorem afm {w wM:World} {g:Nat} {y:qH} (hZ:aF wM g 65 #[.int .u64 0,.bool false,.slice none 0 0]) (hG:ah w wM) (sS:w.heap.size≤g) (hO:oL wM w.heap.size y) (i:Int) (b:Bool) (A:Option Addr) (m k:Nat) :
 aF (((wM.setCell ⟨g,0,none⟩ (.int .u64 i)).setCell ⟨g,1,none⟩ (.bool b)).setCell ⟨g,2,none⟩ (.slice A m k)) g 65 #[.int .u64 i,.bool b,.slice A m k]∧ah w (((wM.setCell ⟨g,0,none⟩ (.int .u64 i)).setCell ⟨g,1,none⟩ (.bool b)).setCell ⟨g,2,none⟩ (.slice A m k))∧oL (((wM.setCell ⟨g,0,none⟩ (.int .u64 i)).setCell ⟨g,1,none⟩ (.bool b)).setCell ⟨g,2,none⟩ (.slice A m k)) w.heap.size y:=by
 have h0:=hZ.aW 0 (.int .u64 i);have h1:=h0.aW 1 (.bool b);have h2:=h1.aW 2 (.slice A m k);refine⟨h2.cast σ,?_,((hO.far hZ δ _).far h0 δ _).far h1 δ _⟩;exact ah.setCell (ah.setCell (ah.setCell hG (p:=⟨g,0,none⟩) sS _) (p:=⟨g,1,none⟩) sS _) (p:=⟨g,2,none⟩) sS _
theorem adL {p:aY} {tt:jU} {lA:Option Addr} {lm lk:Nat} {xs:List dH} {id:Nat} {now:Int} (w:World) (hp:p.At w) (hA:cu w 6 sG lA lm xs) (hat:∀a∈xs,a.At w) (Iw:lm≤1000) (xQ:tt.ok) :
 Calls Tryz.prog 82 #[p.val,.slice lA lm lk,.int .u64 (id:Int),.agg #[.int .i64 tt.lv,.int .u32 (tt.c:Int)],.int .i64 now] w fun e w'=>∃o:Option qH,e =.returned (.tuple #[.agg (MV o),.bool o.isSome])∧o.map (·.t)=Fg p.aU (xs.map (·.a)) id tt now∧(∀x,o = some x→oL w' w.heap.size x)∧ah w w':=by
 have nM:=hA.1;have cC:=ζ (fun (a:dH) (ha:a∈xs) W (hW:ah w W)=>DY W (hp.keep hW) ((hat a ha).keep hW) xQ);have cR:=ζ (fun (a:dH) (ha:a∈xs) W (hW:ah w W)=>sK W ((hat a ha).keep hW));have cI:=ζ (fun (c:dH) W (hr:bJ c.a = true) (h:cu W 2 eu c.A c.m c.a.fs)=>Qo W h (by have:=(eU hr).1;omega) (by have:=(eU hr).2.1;have h2:=h.1;omega) (fun f hf=>((eU hr).2.2 f hf).1));have aec:jw p.aU (xs.map (·.a)) id tt now 0 none:=jw.start;have hO0:=ζ (fun (a:jq) (h:kC p.aU a tt=none)=>show qQ p.aU id tt now a = none by unfold qQ;rw[h]);have tq:=ζ (fun (a c:jq) (h:kC p.aU a tt=some c) (h1:bJ a = false)=>show qQ p.aU id tt now a = none by unfold qQ;rw[h];simp[h1]);have l9:=ζ (fun (a c:jq) (h:kC p.aU a tt=some c) (h1:¬yg c = id)=>show qQ p.aU id tt now a = none by unfold qQ;rw[h];simp[h1]);have iM:=ζ (fun (a c:jq) (h:kC p.aU a tt=some c) (h1:bJ a = true) (h2:yg c = id)=>show qQ p.aU id tt now a = some (dV a now,c.fs) by unfold qQ;rw[h];simp[h1,h2]);have aoA:=ζ (fun k o (x:dH) (h:jw p.aU (xs.map (·.a)) id tt now k o) (hr:xs[k]? = some x) hc=>h.skip (a:=x.a) (by rw[List.getElem?_map,hr];rfl) hc);have alm:=ζ (fun k (x:dH) (h:jw p.aU (xs.map (·.a)) id tt now k none) (hr:xs[k]? = some x) fs hc (t:qH) ht=>h.first (a:=x.a) (by rw[List.getElem?_map,hr];rfl) (fs:=fs) hc (x:=t) ht);have aoW:=ζ (fun k (x:dH) t (h:jw p.aU (xs.map (·.a)) id tt now k (some t)) (hr:xs[k]? = some x) fs hc=>h.more (a:=x.a) (by rw[List.getElem?_map,hr];rfl) (fs:=fs) hc);have apq:=ζ (fun k o (x:dH) (h:jw p.aU (xs.map (·.a)) id tt now k o) (hr:xs[k]? = some x) fs hc=>h.fire (a:=x.a) (by rw[List.getElem?_map,hr];rfl) (fs:=fs) hc);have hdone:=ζ (fun o (h:jw p.aU (xs.map (·.a)) id tt now lm o)=>jw.done (l:=xs.map (·.a)) (o:=o) (by rw[List.length_map,nM];exact h));have hcr:=ζ (fun (a c:jq) (h:kC p.aU a tt=some c) (hr:bJ a = true)=>X5 h hr);generalize Fg p.aU (xs.map (·.a)) id tt now=Yi at *
 clear hp hat nM;replace hA:=ζ hA;generalize hpp:p.aU=aU at *
 unfold aY.val at *
 clear hpp;obtain⟨⟨sl,sA,sm,sk⟩,⟨rl,rA,rm,rk⟩,⟨el,eA,em,ek⟩,⟨al,aA,am,ak⟩,o,oA,om,ok,i,iA,im,ik⟩:=p;simp only at cC ⊢;generalize hSt:jw aU (xs.map (·.a)) id tt now=ST at *
 go_enter Tryz.func82,Tryz.ntmps82
 go_wp2;go_loopw [13,15,16,17,18,21] (fun fnd _ _ _ _ i wr=>∃(k:Nat) (o:Option qH),k≤lm∧i =.int .i64 (k:Int)∧fnd=.bool o.isSome∧Hid (ST k o)∧Hid (∀x,o = some x→oL wr w.heap.size x)∧Hid (aF wr (w.heap.size+1+1+1) 65 (MV o))∧Hid (aF wr w.heap.size 50 #[.slice sA sm sk,.slice rA rm rk,.slice eA em ek,.slice aA am ak,.slice oA om ok,.slice iA im ik])∧Hid (aF wr (w.heap.size+1) 25 #[.int .i64 tt.lv,.int .u32 (tt.c:Int)])∧Hid (aF wr (w.heap.size+1+1) 65 #[.int .u64 0,.bool false,.slice none 0 0])∧Hid (ah w wr)) (fun _ _ _ _ _ i _=>lm-(intOf i).toNat)
 case atStart=>exact⟨0,none,ω,rfl,rfl,aec,(fun x h=>by cases h),aF.WB w _ _ _ _ _,(((aF.new w _ _).alloc _).alloc _).alloc _,((aF.ou w _ _ _).alloc _).alloc _,(aF.yH w _ _ _ _).alloc _,((((ah.refl w).alloc _).alloc _).alloc _).alloc _⟩
 case round=>
  obtain⟨k,o,hk,rfl,rfl,hst,hoa,hT,hB,hL,hZ,hG⟩:=hrel;by_cases yR:k<lm
  ·obtain⟨bb,off,x,rfl,GK,hx,hcell⟩:=(hA.o.keep hG.o).at_ yR;have c0:wr.cell? ⟨bb,off+k*6,none⟩=some (.string ⟨x.a.src.toArray⟩):=hcell 0 _ rfl;have c1:wr.cell? ⟨bb,off+k*6+1,none⟩=some (.slice x.A x.m x.k):=hcell 1 _ rfl;have c2:wr.cell? ⟨bb,off+k*6+2,none⟩=some (.int .i64 x.a.l.lv):=hcell 2 _ rfl;have c3:wr.cell? ⟨bb,off+k*6+3,none⟩=some (.int .u32 (x.a.l.c:Int)):=hcell 3 _ rfl;have c4:wr.cell? ⟨bb,off+k*6+4,none⟩=some (.int .i64 x.a.f):=hcell 4 _ rfl;have c5:wr.cell? ⟨bb,off+k*6+5,none⟩=some (.int .i64 x.a.t):=hcell 5 _ rfl;have lK:(k:Int)<(lm:Int):=ω;have yN:=List.mem_of_getElem? hx;have Y5:=cC.out x yN;have Pe:=cR.out x yN;have KG:=zA x now;have hsk:=ζ (aoA.o k o x hst.o hx);have Ez:=ζ (apq.o k o x hst.o hx);have Va:Hid (∀fs,qQ aU id tt now x.a = some (false,fs)→∀t:qH,t.t = ⟨id,false,fs⟩→ST (k+1) (some (o.getD t))):=ζ (by
    cases o with
    | none=>exact fun fs h t ht=>alm.o k x hst.o hx fs h t ht
    | some y=>exact fun fs h t _=>aoW.o k x y hst.o hx fs h)
   have hq0:=ζ (hO0.o x.a);have hq1:=ζ (tq.o x.a);have Oz:=ζ (l9.o x.a);have hq3:=ζ (iM.o x.a);have atM:=ζ (fun c h hr=>hcr.o x.a c h hr);have p0:=hB.o.c0;have p1:=hB.o.c1;have p2:=hB.o.c2;have p3:=hB.o.c3;have p4:=hB.o.c4;have p5:=hB.o.c5;have l0:=hL.o.c0;have l1:=hL.o.c1;have pl:=hB.o.lt;have ll:=hL.o.lt;have hsz:=hG.o.size;unfold iT at Y5 Pe KG;generalize hCU:kC aU x.a tt=CU at *
   generalize hAB:bJ x.a = AB at *
   generalize hFB:dV x.a now=FB at *
   generalize qQ aU id tt now x.a = OC at *
   replace Y5:=ζ Y5;replace Pe:=ζ Pe;replace KG:=ζ KG;have mX:=ζ ((ah.refl wr).alloc (.cells #[.string ⟨x.a.src.toArray⟩,.slice x.A x.m x.k,.int .i64 x.a.l.lv,.int .u32 (x.a.l.c:Int),.int .i64 x.a.f,.int .i64 x.a.t] 57));clear hcell hx yN hCU hAB hFB hst;go_wp2_with fail;refine (Y5.out _ (hG.o.trans mX.o)).mono ?_;rintro e w1 ⟨v,rfl,hcut,hb⟩;replace mX:=ζ (mX.o.trans hb);have I5:=ζ ((aF.new wr 57 #[.string ⟨x.a.src.toArray⟩,.slice x.A x.m x.k,.int .i64 x.a.l.lv,.int .u32 (x.a.l.c:Int),.int .i64 x.a.f,.int .i64 x.a.t]).grows hb);obtain⟨vs,vA,vm,vk,Vt,vc,vf,vt,rfl⟩:=nJ.form hcut;have x0:=I5.o.c0;have x1:=I5.o.c1;have x2:=I5.o.c2;have x3:=I5.o.c3;have x4:=I5.o.c4;have x5:=I5.o.c5;have xz:=I5.o.lt;clear hb c0 c1 c2 c3 c4 c5 p0 p1 p2 p3 p4 p5 l0 l1 pl ll Y5;cases CU with
   | none=>
    have Fz:=hsk.o (hq0.o rfl);replace mX:=ζ (mX.o.alloc (.cells #[.string vs,.slice vA vm vk,.int .i64 Vt,.int .u32 vc,.int .i64 vf,.int .i64 vt] 57));simp only[Option.isSome_none];go_wp2;go_roundw
    case rel=>exact⟨k+1,o,ω,ν,rfl,Fz,ζ (fun y hy=>(hoa.o y hy).grows mX.o),hT.o.grows mX.o,hB.o.grows mX.o,hL.o.grows mX.o,hZ.o.grows mX.o,hG.o.trans mX.o⟩
    case measure=>exact ψ
   | some c=>
    obtain⟨cA,ck,hce,jY⟩:=hcut;unfold iT at hce;simp only[Value.agg.injEq,Array.mk.injEq,List.cons.injEq,and_true,Value.string.injEq,Value.slice.injEq,Value.int.injEq,true_and] at hce;obtain⟨rfl,⟨rfl,rfl,rfl⟩,rfl,rfl,rfl,rfl⟩:=hce;have oD:=ζ (mX.o.alloc (.cells #[.string ⟨c.src.toArray⟩,.slice vA c.fs.length vk,.int .i64 c.l.lv,.int .u32 (c.l.c:Int),.int .i64 c.f,.int .i64 c.t] 57));have hC1:=ζ (aF.new w1 57 #[.string ⟨c.src.toArray⟩,.slice vA c.fs.length vk,.int .i64 c.l.lv,.int .u32 (c.l.c:Int),.int .i64 c.f,.int .i64 c.t]);have AU:=ζ (I5.o.alloc (.cells #[.string ⟨c.src.toArray⟩,.slice vA c.fs.length vk,.int .i64 c.l.lv,.int .u32 (c.l.c:Int),.int .i64 c.f,.int .i64 c.t] 57));have aeS:=ζ ((jY.bH (base':=w.heap.size) (by have:=hG.o.size;have:=mX.o.size;simp;omega)).alloc (.cells #[.string ⟨c.src.toArray⟩,.slice vA c.fs.length vk,.int .i64 c.l.lv,.int .u32 (c.l.c:Int),.int .i64 c.f,.int .i64 c.t] 57));simp only[Option.isSome_some] at *
    go_wp2_with fail;refine (Pe.out _ (hG.o.trans oD.o)).mono ?_;rintro e w2 ⟨rfl,hb2⟩;replace oD:=ζ (oD.o.trans hb2);replace hC1:=ζ (hC1.o.grows hb2);replace AU:=ζ (AU.o.grows hb2);replace aeS:=ζ (aeS.o.grows hb2);clear hb2 x0 x1 x2 x3 x4 x5 xz mX I5 jY Pe;cases AB with
    | false=>
     have Fz:=hsk.o (hq1.o c rfl rfl);go_wp2;go_roundw
     case rel=>exact⟨k+1,o,ω,ν,rfl,Fz,ζ (fun y hy=>(hoa.o y hy).grows oD.o),hT.o.grows oD.o,hB.o.grows oD.o,hL.o.grows oD.o,hZ.o.grows oD.o,hG.o.trans oD.o⟩
     case measure=>exact ψ
    | true=>
     have hcb:=atM.o c (by first | rfl | trivial) (by first | rfl | trivial);obtain⟨A',c',hcv,-,-,hXa⟩:=aeS.o.arr GN;simp only[Value.slice.injEq,true_and] at hcv;obtain⟨rfl,rfl⟩:=hcv;have cIx:=ζ (cI.out ⟨c,vA,c.fs.length,vk⟩ w2 hcb hXa);have y0:=hC1.o.c0;have y1:=hC1.o.c1;have y2:=hC1.o.c2;have y3:=hC1.o.c3;have y4:=hC1.o.c4;have y5:=hC1.o.c5;have yz:=hC1.o.lt;have aer:=eU hcb;have hown:Hid (∀b,oL w2 w.heap.size ⟨⟨id,b,c.fs⟩,vA,c.fs.length,vk⟩):=ζ (fun b=>⟨aeS.o,by show c.fs.length≤1000;have:=aer.2.1;omega,fun f hf=>by have:=(aer.2.2 f hf).2;omega⟩);clear hXa aeS hcb aer;unfold iT at cIx;simp only at cIx;go_wp2_with fail;refine cIx.out.mono ?_;rintro e w3 ⟨rfl,hb3⟩;replace oD:=ζ (oD.o.trans hb3);replace hC1:=ζ (hC1.o.grows hb3);replace AU:=ζ (AU.o.grows hb3);replace hown:=ζ (fun b=>(hown.o b).grows hb3);clear hb3 y0 y1 y2 y3 y4 y5 yz cIx;by_cases ald:yg c = id
     ·have ahK:((yg c:Nat):Int)=(id:Int):=ω;have aeg:=hq3.o c (by first | rfl | trivial) (by first | rfl | trivial) ald;have x0:=AU.o.c0;have x1:=AU.o.c1;have x2:=AU.o.c2;have x3:=AU.o.c3;have x4:=AU.o.c4;have x5:=AU.o.c5;have xz:=AU.o.lt;clear ald;replace aeg:=ζ aeg;go_wp2_with fail;refine (KG.out _).mono ?_;rintro e w4 ⟨rfl,hb4⟩;replace oD:=ζ (oD.o.trans hb4);have hC4:=hC1.o.grows hb4;replace hown:=ζ (fun b=>(hown.o b).grows hb4);have Xz:=hT.o.grows oD.o;have auj:=ζ Xz;have hZc:=hZ.o.grows oD.o;have z0:=hZc.c0;have z1:=hZc.c1;have z2:=hZc.c2;have zf:=fun j=>hZc.frozen j
      have zl:=hZc.lt;have y1:=hC4.c1;have yz:=hC4.lt;obtain⟨ti,tb,tA,tm,tk,ht⟩:=NZ o;rw[ht] at Xz;have t0:=Xz.c0;have t1:=Xz.c1;have t2:=Xz.c2;have tf:=fun j=>Xz.frozen j
      have tl:=Xz.lt;have AV:=ζ (hG.o.trans oD.o);have hZ4:=ζ (hZ.o.grows oD.o);have QN:=ζ (hB.o.grows oD.o);have hL4:=ζ (hL.o.grows oD.o);have atf:=ζ (fun y hy=>(hoa.o y hy).grows oD.o);clear hb4 x0 x1 x2 x3 x4 x5 xz hC4 hC1 AU oD hG hZ hB hL hoa hT KG ht;have hb0:=Xz.aW 0 (.int .u64 (id:Int));have aly:=hb0.aW 1 (.bool FB);have hb2:=aly.aW 2 (.slice vA c.fs.length vk);have hg2:=ah.setCell (ah.setCell (ah.setCell AV.o (p:=⟨w.heap.size+1+1+1,0,none⟩) (by simp;omega) (.int .u64 (id:Int))) (p:=⟨w.heap.size+1+1+1,1,none⟩) (by simp;omega) (.bool FB)) (p:=⟨w.heap.size+1+1+1,2,none⟩) (by simp;omega) (.slice vA c.fs.length vk);have OD:∀y,oL w4 w.heap.size y→oL (((w4.setCell ⟨w.heap.size+1+1+1,0,none⟩ (.int .u64 (id:Int))).setCell ⟨w.heap.size+1+1+1,1,none⟩ (.bool FB)).setCell ⟨w.heap.size+1+1+1,2,none⟩ (.slice vA c.fs.length vk)) w.heap.size y:=fun y hy=>((hy.far Xz δ _).far hb0 δ _).far aly δ _
      have alx:=hb2.cast (cs':=MV (some ⟨⟨id,FB,c.fs⟩,vA,c.fs.length,vk⟩)) (by simp[MV]);have hbB:=(((QN.o.far (p:=⟨w.heap.size+1+1+1,0,none⟩) (by simp;omega) (.int .u64 (id:Int))).far (p:=⟨w.heap.size+1+1+1,1,none⟩) (by simp;omega) (.bool FB)).far (p:=⟨w.heap.size+1+1+1,2,none⟩) (by simp;omega) (.slice vA c.fs.length vk));have hbL:=(((hL4.o.far (p:=⟨w.heap.size+1+1+1,0,none⟩) σ (.int .u64 (id:Int))).far (p:=⟨w.heap.size+1+1+1,1,none⟩) σ (.bool FB)).far (p:=⟨w.heap.size+1+1+1,2,none⟩) σ (.slice vA c.fs.length vk));have hbZ:=(((hZ4.o.far (p:=⟨w.heap.size+1+1+1,0,none⟩) σ (.int .u64 (id:Int))).far (p:=⟨w.heap.size+1+1+1,1,none⟩) σ (.bool FB)).far (p:=⟨w.heap.size+1+1+1,2,none⟩) σ (.slice vA c.fs.length vk));replace alx:=ζ alx;replace hg2:=ζ hg2;replace OD:=ζ OD;replace hbB:=ζ hbB;replace hbL:=ζ hbL;replace hbZ:=ζ hbZ;clear hb0 aly hb2 Xz;cases FB with
      | true=>
       have hres:=ζ (Ez.o c.fs aeg.o);obtain⟨n0,n1,n2⟩:=afm hbZ.o hg2.o ω (OD.o _ (hown.o true)) (id:Int) true vA c.fs.length vk;have e0:=n0.cell 0;have e1:=n0.cell 1;have e2:=n0.cell 2;simp only[List.getElem?_toArray,List.getElem?_cons_zero,List.getElem?_cons_succ] at e0 e1 e2;replace n1:=ζ n1;replace n2:=ζ n2;clear n0 Ez hsk Va;go_wp2;refine bodyPost_ret (v:=.tuple #[.agg (MV (some ⟨⟨id,true,c.fs⟩,vA,c.fs.length,vk⟩)),.bool true]) ?_ rfl ⟨some ⟨⟨id,true,c.fs⟩,vA,c.fs.length,vk⟩,rfl,hres.o.symm,(fun y hy=>by injection hy with hy;subst hy;exact n2.out),n1.out⟩;simp[results,Tryz.results82,go_sem,e0,e1,e2,MV]
      | false=>
       clear z0 z1 z2 zf zl;cases o with
       | none=>
        have Fz:=Va.o c.fs aeg.o ⟨⟨id,false,c.fs⟩,vA,c.fs.length,vk⟩ rfl;simp only[Option.isSome_none,Option.getD_none] at *
        go_wp2;go_roundw
        case rel=>exact⟨k+1,some ⟨⟨id,false,c.fs⟩,vA,c.fs.length,vk⟩,ω,ν,rfl,Fz,ζ (fun y hy=>by injection hy with hy;subst hy;exact OD.o _ (hown.o false)),alx,hbB,hbL,hbZ,hg2⟩
        case measure=>exact ψ
       | some y=>
        have Fz:=Va.o c.fs aeg.o ⟨⟨id,false,c.fs⟩,none,0,0⟩ rfl;simp only[Option.isSome_some,Option.getD_some] at *
        go_wp2;go_roundw
        case rel=>exact⟨k+1,some y,ω,ν,rfl,Fz,atf,auj,QN,hL4,hZ4,AV⟩
        case measure=>exact ψ
     ·have Fz:=hsk.o (Oz.o c (by first | rfl | trivial) ald);have ahK:¬((yg c:Nat):Int)=(id:Int):=ω;go_wp2;go_roundw
      case rel=>exact⟨k+1,o,ω,ν,rfl,Fz,ζ (fun y hy=>(hoa.o y hy).grows oD.o),hT.o.grows oD.o,hB.o.grows oD.o,hL.o.grows oD.o,hZ.o.grows oD.o,hG.o.trans oD.o⟩
      case measure=>exact ψ
  ·obtain rfl:k=lm:=ω;have hres:=ζ (hdone.o o hst.o);obtain⟨ti,tb,tA,tm,tk,ht⟩:=NZ o;rw[ht] at hT;have t0:=hT.o.c0;have t1:=hT.o.c1;have t2:=hT.o.c2;have tl:=hT.o.lt;have z0:=hZ.o.c0;have z1:=hZ.o.c1;have z2:=hZ.o.c2;have zf:=fun j=>hZ.o.frozen j
   have zl:=hZ.o.lt;have hb0:=hZ.o.aW 0 (.int .u64 ti);have hb1:=hb0.aW 1 (.bool tb);have hb2:=hb1.aW 2 (.slice tA tm tk);have e0:=hb2.cell 0;have e1:=hb2.cell 1;have e2:=hb2.cell 2;have hgz:=ah.setCell (ah.setCell (ah.setCell hG.o (p:=⟨w.heap.size+1+1,0,none⟩) (by simp;omega) (.int .u64 ti)) (p:=⟨w.heap.size+1+1,1,none⟩) (by simp;omega) (.bool tb)) (p:=⟨w.heap.size+1+1,2,none⟩) (by simp;omega) (.slice tA tm tk);have hoz:∀x,o = some x→oL (((wr.setCell ⟨w.heap.size+1+1,0,none⟩ (.int .u64 ti)).setCell ⟨w.heap.size+1+1,1,none⟩ (.bool tb)).setCell ⟨w.heap.size+1+1,2,none⟩ (.slice tA tm tk)) w.heap.size x:=fun x hx=>(((hoa.o x hx).far hZ.o δ _).far hb0 δ _).far hb1 δ _
   simp at e0 e1 e2;replace hgz:=ζ hgz;replace hoz:=ζ hoz;clear hb0 hb1 hb2;go_wp2;refine bodyPost_ret (v:=.tuple #[.agg (MV o),.bool o.isSome]) ?_ rfl ⟨o,rfl,hres.o.symm,hoz.o,hgz.o⟩;rw[ht];simp[results,Tryz.results82,go_sem,e0,e1,e2]
end Go.Proofs.YtbhikkgpcmkonaaGreatDoor
