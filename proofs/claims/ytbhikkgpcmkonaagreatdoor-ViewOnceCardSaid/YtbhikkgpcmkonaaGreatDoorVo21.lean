/- Parts: LetC InhH LetD -/
import Derived.Test.YtbhikkgpcmkonaaGreatDoorVo0
import Derived.Test.YtbhikkgpcmkonaaGreatDoorVo18
import Derived.Test.YtbhikkgpcmkonaaGreatDoorVo20
import Derived.Test.YtbhikkgpcmkonaaGreatDoorVo3
import Derived.Test.YtbhikkgpcmkonaaGreatDoorVo12
set_option maxRecDepth 100000
set_option maxHeartbeats 12800000
namespace Go.Proofs.YtbhikkgpcmkonaaGreatDoor
open Go.RowKit
structure nK where
 t:Xq
 A:Option Addr
 m:Nat
 k:Nat
def Y8 (x:nK):List Value:=[.int .u64 (x.t.id:Int),.bool x.t.jM,.slice x.A x.m x.k]
structure nK.At (x:nK) (w:World):Prop where
 arr:bW w 2 dZ x.A x.m x.t.fs
 le:x.m≤1000
 txt:∀f∈x.t.fs,f.v.length≤1000000
theorem nK.At.keep {x:nK} {w w':World} (h:x.At w) (hg:ah w w'):x.At w':=⟨h.arr.keep hg,h.le,h.txt⟩
structure fO where
 rc:List UInt8
 gr:List UInt8
 n:Int
 tm:Int
 fP:List bM
 bA:Option Addr
 bm:Nat
 bk:Nat
 ts:List nK
 tA:Option Addr
 tl:Nat
 tk:Nat
def fO.xM (x:fO):N_:=⟨x.rc,x.gr,x.n,x.tm,x.fP,x.ts.map (·.t)⟩
def XD (x:fO):Value:=.agg #[.string ⟨x.rc.toArray⟩,.string ⟨x.gr.toArray⟩,.int .i64 x.n,.int .i64 x.tm,.slice x.bA x.bm x.bk,.slice x.tA x.tl x.tk]
def kE (x:fO):List Value:=[.string ⟨x.rc.toArray⟩,.string ⟨x.gr.toArray⟩,.int .i64 x.n,.int .i64 x.tm,.slice x.bA x.bm x.bk,.slice x.tA x.tl x.tk]
structure fO.At (x:fO) (w:World):Prop where
 fP:bW w 2 dZ x.bA x.bm x.fP
 ble:x.bm≤1000
 Tm:∀f∈x.fP,f.v.length≤1000000
 ts:bW w 3 Y8 x.tA x.tl x.ts
 tle:x.tl≤1000
 at_:∀y∈x.ts,y.At w
theorem fO.At.keep {x:fO} {w w':World} (h:x.At w) (hg:ah w w'):x.At w':=⟨h.fP.keep hg,h.ble,h.Tm,h.ts.keep hg,h.tle,fun y hy=>(h.at_ y hy).keep hg⟩
theorem ad6:∀{l:List Xq},W_ l = true→∀{j:Nat} {e f:Xq},l[j]? = some e→l[j + 1]? = some f→e.id<f.id
 | [],_,_,_,_,h,_=>by simp at h
 | [_],_,_,_,_,_,h=>by simp at h
 | a ::b ::l,hl,j,e,f,he,hf=>by
  have h2:a.id<b.id∧W_ (b ::l)=true:=by simpa[W_] using hl
  cases j with
  | zero=>simp at he hf;subst he hf;exact h2.1
  | succ j=>exact ad6 h2.2 (by simpa using he) (by simpa using hf)
theorem ad5:∀{l:List Xq},(∀(j:Nat) (e f:Xq),l[j]? = some e→l[j + 1]? = some f→e.id<f.id)→W_ l = true
 | [],_=>rfl
 | [_],_=>rfl
 | a ::b ::l,h=>by
  have h1:=h 0 a b rfl rfl;have h2:=ad5 (l:=b ::l) (fun j e f he hf=>h (j + 1) e f (by simpa using he) (by simpa using hf));show (decide (a.id<b.id)&&W_ (b ::l))=true
  rw[h2];simp[h1]
def Ir (l:List Xq):Bool:=(l.all fun t=>fieldsU t.fs)&&W_ l
theorem aeu {l:List Xq} {k:Nat} {t:Xq} (ht:l[k]? = some t) (h:fieldsU t.fs=false):Ir l = false:=by
 unfold Ir;have:(l.all fun t=>fieldsU t.fs)=false:=by
  rw[List.all_eq_false];exact⟨t,List.mem_of_getElem? ht,by rw[h];simp⟩
 rw[this];rfl
theorem aev {l:List Xq} {k:Nat} {s t:Xq} (hs:l[k]? = some s) (ht:l[k+1]? = some t) (h:¬s.id<t.id):Ir l = false:=by
 unfold Ir;have:W_ l = false:=by
  rw[←Bool.not_eq_true];exact fun hh=>h (ad6 hh hs ht)
 rw[this];simp
def AZ (l:List Xq) (k:Nat):Prop:=(∀j t,j < k→l[j]? = some t→fieldsU t.fs=true)∧(∀j s t,j + 1<k→l[j]? = some s→l[j + 1]? = some t→s.id<t.id)
theorem AZ.succ {l:List Xq} {k:Nat} {t:Xq} (h:AZ l k) (ht:l[k]? = some t) (hb:fieldsU t.fs=true) (ha:∀s,0<k→l[k-1]? = some s→s.id<t.id):AZ l (k+1):=by
 refine⟨fun j g hj hg=> ?_,fun j e g hj he hg=> ?_⟩
 ·by_cases hjk:j = k
  ·subst hjk;rw[ht] at hg;rw[←Option.some.inj hg];exact hb
  ·exact h.1 j g ω hg
 ·by_cases hjk:j + 1=k
  ·subst hjk;rw[ht] at hg;rw[←Option.some.inj hg];exact ha e ω (by simpa using he)
  ·exact h.2 j e g ω he hg
theorem AZ.all {l:List Xq} (h:AZ l l.length):Ir l = true:=by
 unfold Ir;rw[Bool.and_eq_true,List.all_eq_true];refine⟨fun t ht=> ?_,ad5 fun j s t hs ht=>h.2 j s t (List.getElem?_eq_some_iff.1 ht).1 hs ht⟩;obtain⟨j,hj⟩:=List.getElem?_of_mem ht;exact h.1 j t (List.getElem?_eq_some_iff.1 hj).1 hj
theorem VL (x:N_):uo x = (O5 x.group&&fG x.rc&&rU x.number&&rU x.time&&fieldsU x.fP&&decide (x.Qm.length≤20)&&Ir x.Qm):=rfl
theorem abw {x:fO} (w:World) (hT:oI w) (hx:x.At w) (hgr:x.gr.length≤1000000) :
 Calls Tryz.prog 83 #[XD x] w fun e w'=>e =.returned (.bool (uo x.xM))∧ah w w':=by
 have cK:=ζ (fun W (_:ah w W)=>abb x.gr hgr W);have cN:=ζ (fun W (_:ah w W)=>uN x.rc W);have cT1:=ζ (fun W (_:ah w W)=>XK x.n W);have cT2:=ζ (fun W (_:ah w W)=>XK x.tm W);have cF:=ζ (fun W (hW:ah w W)=>Lr (c:=x.bk) W (hT.grows hW) (hx.fP.keep hW) hx.ble hx.Tm);have cT:=ζ (fun y (hy:y∈x.ts) W (hW:ah w W)=>Lr (c:=y.k) W (hT.grows hW) ((hx.at_ y hy).arr.keep hW) (hx.at_ y hy).le (hx.at_ y hy).txt);have hts:=ζ hx.ts;have kN:=hx.ts.1;have htl:=hx.tle;have hR:uo x.xM=(O5 x.gr&&fG x.rc&&rU x.n &&rU x.tm&&fieldsU x.fP&&decide (x.tl≤20)&&Ir (x.ts.map (·.t))):=by
  rw[VL];unfold fO.xM;simp only[List.length_map,kN]
 rw[hR];have qR:=ζ (fun k y (h1:x.ts[k]? = some y) (h:fieldsU y.t.fs=false)=>aeu (l:=x.ts.map (·.t)) (k:=k) (t:=y.t) (by rw[List.getElem?_map,h1];rfl) h);have aBb:=ζ (fun k y z (h1:x.ts[k]? = some y) (h2:x.ts[k+1]? = some z) (h:¬y.t.id<z.t.id)=>aev (l:=x.ts.map (·.t)) (k:=k) (s:=y.t) (t:=z.t) (by rw[List.getElem?_map,h1];rfl) (by rw[List.getElem?_map,h2];rfl) h);have hall:=ζ (fun (h:AZ (x.ts.map (·.t)) x.tl)=>AZ.all (l:=x.ts.map (·.t)) (by rw[List.length_map,kN];exact h));have azZ:=ζ (fun k y (h:AZ (x.ts.map (·.t)) k) (h1:x.ts[k]? = some y) hb ha=>h.succ (t:=y.t) (by rw[List.getElem?_map,h1];rfl) hb ha);generalize Ir (x.ts.map (·.t))=TB at *
 generalize O5 x.gr=KB at *
 generalize fG x.rc=NB at *
 generalize rU x.n = T1 at *
 generalize rU x.tm=T2 at *
 generalize fieldsU x.fP=FB at *
 clear hR hT hx hgr;obtain⟨rc,gr,n,tm,fP,bA,bm,bk,ts,tA,tl,tk⟩:=x;unfold XD;simp only at *
 go_enter Tryz.func83,Tryz.ntmps83
 go_wp2_with fail;have bX:=aG.new w 64 #[.string ⟨rc.toArray⟩,.string ⟨gr.toArray⟩,.int .i64 n,.int .i64 tm,.slice bA bm bk,.slice tA tl tk];have WE:ah w (w.alloc (.cells #[.string ⟨rc.toArray⟩,.string ⟨gr.toArray⟩,.int .i64 n,.int .i64 tm,.slice bA bm bk,.slice tA tl tk] 64)):=(ah.refl w).alloc _;refine (cK.out _ WE).mono ?_;rintro e w1 ⟨N,rfl,hb1⟩;have bX1:=bX.grows hb1;have fM:=ah.trans WE hb1;have x0:=bX1.c0;have x1:=bX1.c1;have x2:=bX1.c2;have x3:=bX1.c3;have x4:=bX1.c4;have x5:=bX1.c5;have xl:=bX1.lt;clear hb1 WE bX;cases KB with
 | false=>
  go_wp2;go_ret;exact⟨rfl,fM⟩
 | true=>
  go_wp2_with fail;refine (cN.out _ fM).mono ?_;rintro e w2 ⟨rfl,hb2⟩;have bX2:=bX1.grows hb2;have gK:=ah.trans fM hb2;have x0:=bX2.c0;have x1:=bX2.c1;have x2:=bX2.c2;have x3:=bX2.c3;have x4:=bX2.c4;have x5:=bX2.c5;have xl:=bX2.lt;clear hb2 fM bX1;cases NB with
  | false=>
   go_wp2;go_ret;exact⟨rfl,gK⟩
  | true=>
   go_wp2_with fail;refine (cT1.out _ gK).mono ?_;rintro e w3 ⟨rfl,hb3⟩;have bX3:=bX2.grows hb3;have qp:=ah.trans gK hb3;have x0:=bX3.c0;have x1:=bX3.c1;have x2:=bX3.c2;have x3:=bX3.c3;have x4:=bX3.c4;have x5:=bX3.c5;have xl:=bX3.lt;clear hb3 gK bX2;cases T1 with
   | false=>
    go_wp2;go_ret;exact⟨rfl,qp⟩
   | true=>
    go_wp2_with fail;refine (cT2.out _ qp).mono ?_;rintro e w4 ⟨rfl,hb4⟩;have Zu:=bX3.grows hb4;have rJ:=ah.trans qp hb4;have x0:=Zu.c0;have x1:=Zu.c1;have x2:=Zu.c2;have x3:=Zu.c3;have x4:=Zu.c4;have x5:=Zu.c5;have xl:=Zu.lt;clear hb4 qp bX3;cases T2 with
    | false=>
     go_wp2;go_ret;exact⟨rfl,rJ⟩
    | true=>
     go_wp2_with fail;refine (cF.out _ rJ).mono ?_;rintro e w5 ⟨rfl,fK⟩;have U1:=Zu.grows fK;have oP:=ah.trans rJ fK;have x0:=U1.c0;have x1:=U1.c1;have x2:=U1.c2;have x3:=U1.c3;have x4:=U1.c4;have x5:=U1.c5;have xl:=U1.lt;clear fK rJ Zu;cases FB with
     | false=>
      go_wp2;go_ret;exact⟨rfl,oP⟩
     | true=>
      by_cases h20:tl≤20
      ·have aB3:¬(20:Int)<(tl:Int):=ω;clear cK cN cT1 cT2 cF;clear x0 x1 x2 x3 x4;replace oP:=ζ oP;replace U1:=ζ U1;go_wp2;go_loopw [5,6,48] (fun _ _ i wr=>∃k:Nat,k≤tl∧i =.int .i64 (k:Int)∧Hid (AZ (ts.map (·.t)) k)∧Hid (ah w5 wr)) (fun _ _ i _=>tl-(intOf i).toNat)
       case atStart=>exact⟨0,ω,rfl,ζ ⟨fun _ _ h=>absurd h ω,fun _ _ _ h=>absurd h ω⟩,ah.refl _⟩
       case round=>
        obtain⟨k,hk,rfl,oC,AO⟩:=hrel;by_cases qC:k<tl
        ·obtain⟨bb,off,y,hyA,CW,hy,hcell⟩:=(hts.o.keep (oP.o.trans AO.o)).at_ qC;subst hyA;have c0:wr.cell? ⟨bb,off+k*3,none⟩=some (.int .u64 (y.t.id:Int)):=hcell 0 _ rfl;have c1:wr.cell? ⟨bb,off+k*3+1,none⟩=some (.bool y.t.jM):=hcell 1 _ rfl;have c2:wr.cell? ⟨bb,off+k*3+2,none⟩=some (.slice y.A y.m y.k):=hcell 2 _ rfl;have kX:(k:Int)<(tl:Int):=ω;have wU:=List.mem_of_getElem? hy;have hXr:=U1.out.grows AO.o;have x5':=hXr.c5;have xlr:=hXr.lt;have YS:=ζ (AO.o.alloc (.cells #[.int .u64 (y.t.id:Int),.bool y.t.jM,.slice y.A y.m y.k] 65));have cTy:=ζ (fun V (hV:ah (wr.alloc (.cells #[.int .u64 (y.t.id:Int),.bool y.t.jM,.slice y.A y.m y.k] 65)) V)=>cT.out y wU V ((oP.o.trans YS.o).trans hV));have hb1:=qR.o k y hy;have hs1:=azZ.o k y oC.o hy;have dN:=ah.refl (wr.alloc (.cells #[.int .u64 (y.t.id:Int),.bool y.t.jM,.slice y.A y.m y.k] 65));generalize hFU:fieldsU y.t.fs=FU at *
         clear hXr hcell;cases FU with
         | false=>
          have hTB:Hid (TB=false):=ζ (hb1 rfl);clear hb1 hs1 hy;go_wp2_with fail;refine aF κ ?_;refine rK (.range 20) 0 ?_;iterate 2 refine ay ?_
          refine aT (.bool false) rfl χ (fun wq dN=> ?_) ?_
          ·obtain⟨lu,kR⟩:=bF dN;go_simp;exact Calls.mono (cTy.out wq dN) (fun e w'' h=>h)
          go_simp;iterate 17 refine ay ?_
          refine aB ?_;refine aH κ (fun wN hN hS=> ?_);have hGN:=oP.o.trans (YS.o.trans hN);go_wp2;go_ret;exact⟨aJ (by simp[hTB.o]),hGN⟩
         | true=>
          by_cases JC:0<k
          ·obtain⟨j,rfl⟩:∃j,k=j + 1:=⟨k-1,ω⟩;obtain⟨bb',kJ,z,hA',hse,hz,vT⟩:=(hts.o.keep (oP.o.trans AO.o)).at_ (show j < tl by omega);injection hA' with hA'
           injection hA' with Z8 hA2
           subst Z8 hA2;have d0:wr.cell? ⟨bb,off+j * 3,none⟩=some (.int .u64 (z.t.id:Int)):=vT 0 _ rfl;have i0:(0:Int)<((j + 1:Nat):Int):=ω;have i1:((j + 1:Nat):Int)-1=(j:Int):=ω;have i2:(j:Int)<(tl:Int):=ω;by_cases hid:z.t.id<y.t.id
           ·have anH:¬(y.t.id:Int)≤(z.t.id:Int):=ω;have aqT:=ζ (hs1 rfl (fun s _ hs=>by
             rw[show j + 1-1=j by omega,List.getElem?_map,hz] at hs;injection hs with hs
             rw[←hs];exact hid))
            clear hb1 hs1 hy hz vT hid;go_wp2_with fail;refine aF κ ?_;refine rK (.range 20) 0 ?_;iterate 2 refine ay ?_
            refine aT (.bool true) rfl χ (fun wq dN=> ?_) ?_
            ·obtain⟨lu,kR⟩:=bF dN;go_simp;exact Calls.mono (cTy.out wq dN) (fun e w'' h=>h)
            go_simp;iterate 17 refine ay ?_
            refine aB ?_;refine aH κ (fun wN hN hS=> ?_);have hGN:=ζ (YS.o.trans hN);go_wp2;go_roundw
            case rel=>exact⟨j + 1+1,ω,ν,aqT,hGN⟩
            case measure=>exact ψ
           ·have anH:(y.t.id:Int)≤(z.t.id:Int):=ω;have hTB:Hid (TB=false):=ζ (aBb.o j z y hz hy hid);clear hb1 hs1 hy hz vT hid;go_wp2_with fail;refine aF κ ?_;refine rK (.range 20) 0 ?_;iterate 2 refine ay ?_
            refine aT (.bool true) rfl χ (fun wq dN=> ?_) ?_
            ·obtain⟨lu,kR⟩:=bF dN;go_simp;exact Calls.mono (cTy.out wq dN) (fun e w'' h=>h)
            go_simp;iterate 17 refine ay ?_
            refine aB ?_;refine aH κ (fun wN hN hS=> ?_);have hGN:=oP.o.trans (YS.o.trans hN);go_wp2;go_ret;exact⟨aJ (by simp[hTB.o]),hGN⟩
          ·obtain rfl:k=0:=ω;have aqT:=ζ (hs1 rfl (fun s h _=>absurd h ω));simp only[Nat.zero_mul,Nat.add_zero] at c0 c1 c2;clear hb1 hs1 hy;go_wp2_with fail;refine aF κ ?_;refine rK (.range 20) 0 ?_;iterate 2 refine ay ?_
           refine aT (.bool true) rfl χ (fun wq dN=> ?_) ?_
           ·obtain⟨lu,kR⟩:=bF dN;go_simp;exact Calls.mono (cTy.out wq dN) (fun e w'' h=>h)
           go_simp;iterate 17 refine ay ?_
           refine aB ?_;refine aH κ (fun wN hN hS=> ?_);have hGN:=ζ (YS.o.trans hN);go_wp2;go_roundw
           case rel=>exact⟨1,ω,ν,aqT,hGN⟩
           case measure=>exact ψ
        ·obtain rfl:k=tl:=ω;have hTB:=hall.o oC.o;go_wp2;go_ret;exact⟨aJ (by simp[hTB,h20]),oP.o.trans AO.o⟩
      ·have aB3:(20:Int)<(tl:Int):=ω;go_wp2;go_ret;exact⟨aJ (by simp[h20]),oP⟩
def Qs (ft:List bM→cu→Bool) (p:bQ):Prop:=∀r∈p.i,(∀y∈r.i.wh,lV ft y)∧∀y∈r.i.from_,lV ft y
def auS (o:Option iH) (F:iH→List Nat):List Nat:=match o with
 | none=>[]
 | some c=>F c
theorem qm.grows {w w':World} {b:Nat} {o:Option iH} {v:Value} (h:qm w b o v) (hg:ah w w'):qm w' b o v:=by
 cases o with
 | none=>exact h
 | some a=>obtain⟨A,c,e,hO⟩:=h;exact⟨A,c,e,hO.grows hg⟩
theorem qm.bK {w:World} {b b':Nat} {o:Option iH} {v:Value} (h:qm w b o v) (hb:b'≤b):qm w b' o v:=by
 cases o with
 | none=>exact h
 | some a=>obtain⟨A,c,e,hO⟩:=h;exact⟨A,c,e,hO.bK hb⟩
theorem qm.far {w:World} {b g n:Nat} {o:Option iH} {v:Value} {cs:Array Value} (h:qm w b o v) (hB:aG w g 57 cs) (u:Value):qm (w.setCell ⟨g,n,none⟩ u) b o v:=by
 cases o with
 | none=>exact h
 | some a=>
  obtain⟨A,c,e,hO⟩:=h;exact⟨A,c,e,hO.kept' (aj w ⟨g,n,none⟩ u) (fun j hj=>by injection hj with hj;subst hj;exact aZ hO hB δ)⟩
def aCD (wr:World) (base:Nat) (CU:Option iH) (sp sk:Nat) (f:Nat→Value) (wz:World):Prop:=
 ∃(gc:Nat) (s:ByteArray) (A:Option Addr) (m k:Nat) (lv c f' t:Int),f sp=.pointer (some ⟨gc,0,none⟩)∧f sk=.bool CU.isSome∧
  aG wz gc 57 #[.string s,.slice A m k,.int .i64 lv,.int .u32 c,.int .i64 f',.int .i64 t]∧qm wz base CU (.agg #[.string s,.slice A m k,.int .i64 lv,.int .u32 c,.int .i64 f',.int .i64 t])∧ah wr wz∧wr.heap.size≤gc
theorem aaY {fb:cu→Bool} {ft:List bM→cu→Bool} {p:bQ} {tO:gy} {lA:Option Addr} {lm lk:Nat} {xs:List dD} {now:Int} {k:Nat} {x:dD} (w:World) (hp:p.At w) (nG:lW fb p) (JD:Qs ft p) (hib:∀r∈p.i,r.bm≤1000000) (YF:p.im≤1000)
 (hA:bW w 6 tH lA lm xs) (hat:∀a∈xs,a.At w) (Jz:lm≤1000) (oC:tO.ok) (hk:xs[k]? = some x) :
 Calls Tryz.prog 99 #[p.val,.slice lA lm lk,.int .i64 (k:Int),.agg #[.int .i64 tO.lv,.int .u32 (tO.c:Int)],.int .i64 now] w fun e w'=>∃v,e =.returned v∧Own w' w.heap.size 3 1 encI v (yC fb ft p.aU (xs.map (·.a)) k tO now)∧ah w w':=by
 have wL:=List.mem_of_getElem? hk;have hxA:=hat x wL;have cR:=ζ (fun W (hW:ah w W)=>wB W (hxA.keep hW));have cK:=ζ (fun W (hW:ah w W)=>zI W (hp.keep hW) nG);have cC:=ζ (fun W (hW:ah w W)=>DZ W (hp.keep hW) (hxA.keep hW) oC);have cI:=ζ (fun (hr:bg x.a = true) W (hW:ah w W)=>VT W (hxA.arr.keep hW) (by have:=(gQ hr).1;omega) (by have:=(gQ hr).2.1;have h2:=hxA.arr.1;omega) (fun f hf=>((gQ hr).2.2 f hf).1));have cF:=ζ (fun (r:yH) (hr:r∈p.i) W=>vO r.i.l tO W (hp.iAt r hr).Jy oC);have cB:=ζ (fun (r:yH) (hr:r∈p.i) (c:dD) (id:Nat) W (hW:ah w W) (hc:bW W 2 dZ c.A c.m c.a.fs) (hcm:c.m≤1000) (hcT:∀f∈c.a.fs,f.v.length≤1000000)=>
  afI (ft:=ft) (lk:=lk) (now:=now) (id:=id) W ((hp.iAt r hr).keep hW) (hib r hr) hc hcm hcT (hA.keep hW) (fun a ha=>(hat a ha).keep hW) Jz (JD r hr).1 (JD r hr).2)
 have Uo:=hp.i;have arh:k<lm:=by rw[←hA.1];exact (List.getElem?_eq_some_iff.1 hk).1
 obtain⟨xb,xo,x',hxp,hxb,zo,Uh⟩:=hA.at_ arh;rw[hk] at zo;injection zo with zo
 subst zo;have hQ:yC fb ft p.aU (xs.map (·.a)) k tO now=if bg x.a then (if fE fb p.aU=0 then auS (iR p.aU x.a tO) (fun c=>Fa ft p.aU (xs.map (·.a)) (CV x.a) c tO now p.im) else []) else []:=by
  have e1:(xs.map (·.a))[k]? = some x.a:=by rw[List.getElem?_map,hk];rfl
  have e2:p.aU.jZ.length=p.im:=by
   show (p.i.map (·.i)).length=_
   rw[List.length_map,Uo.1]
  unfold yC Fa;rw[e1];simp only[e2];rfl
 have Pn:bg x.a = true→∀c,iR p.aU x.a tO=some c→(∀f∈c.fs,f.v.length≤1000000)∧c.fs.length≤1000:=fun hr c hc=>by
  have h1:=gQ hr;have h3:=mY p.aU x.a.fs x.a.l tO;unfold iR at hc;split at hc
  ·cases hc
  ·injection hc with hc
   subst hc;exact⟨fun f hf=>by have:=(h1.2.2 f (List.mem_filter.1 hf).1).2;omega,by simp only;omega⟩
 have hst:=ζ (fun (c:iH) j (r:yH) b (hr:p.i[j]? = some r) (h:(eU r.i.l tO&&byI ft r.i (xs.map (·.a)) (CV x.a) c now)=b)=>abE (ft:=ft) (p:=p.aU) (l:=xs.map (·.a)) (id:=CV x.a) (c:=c) (tO:=tO) (now:=now) (k:=j) (b:=b) (by
  unfold Ug;have e:p.aU.jZ[j]? = some r.i:=by
   show (p.i.map (·.i))[j]? = _
   rw[List.getElem?_map,hr];rfl
  rw[e];exact h))
 have Qv:=ζ (fun (c:iH) j=>afH ft p.aU (xs.map (·.a)) (CV x.a) c tO now j);have Nq:Hid (∀c:iH,Fa ft p.aU (xs.map (·.a)) (CV x.a) c tO now 0=[]):=ζ (fun c=>rfl);generalize Fa ft p.aU (xs.map (·.a)) (CV x.a)=FF at *
 generalize yC fb ft p.aU (xs.map (·.a)) k tO now=Q at *
 generalize iR p.aU x.a tO=CU at *
 generalize fE fb p.aU=CK at *
 generalize hID:CV x.a = ID at *
 generalize hAB:bg x.a = AB at *
 have hs0:w.cell? ⟨xb,xo+k*6,none⟩=some (.string ⟨x.a.src.toArray⟩):=Uh 0 _ rfl;have hs1:w.cell? ⟨xb,xo+k*6+1,none⟩=some (.slice x.A x.m x.k):=Uh 1 _ rfl;have hs2:w.cell? ⟨xb,xo+k*6+2,none⟩=some (.int .i64 x.a.l.lv):=Uh 2 _ rfl;have hs3:w.cell? ⟨xb,xo+k*6+3,none⟩=some (.int .u32 (x.a.l.c:Int)):=Uh 3 _ rfl;have hs4:w.cell? ⟨xb,xo+k*6+4,none⟩=some (.int .i64 x.a.f):=Uh 4 _ rfl;have hs5:w.cell? ⟨xb,xo+k*6+5,none⟩=some (.int .i64 x.a.t):=Uh 5 _ rfl;have kX:(k:Int)<(lm:Int):=ω;subst hxp;replace Uo:=ζ Uo;replace Pn:=ζ Pn;replace hQ:=ζ hQ;clear hp nG JD hib hA hat hxA wL Uh hk;unfold bQ.val iV at *
 obtain⟨⟨sl,sA,sm,sk⟩,⟨rl,rA,rm,rk⟩,⟨el,eA,em,ek⟩,⟨al,aA,am,ak⟩,o,oA,om,ok,i,iA,im,ik⟩:=p;obtain⟨⟨src,fs,⟨lv,lc⟩,f,t⟩,A,m,k0⟩:=x;simp only at *
 have JC:¬(k:Int)<0:=ω;have JA:¬lm≤k:=ω;go_enter Tryz.func99,Tryz.ntmps99
 go_wp2_with fail;refine (cR.out _ γ).mono ?_;rintro e w1 ⟨rfl,hb1⟩;have bP:=(((aG.new w 50 #[.slice sA sm sk,.slice rA rm rk,.slice eA em ek,.slice aA am ak,.slice oA om ok,.slice iA im ik]).alloc (.cells #[.int .i64 tO.lv,.int .u32 (tO.c:Int)] 25)).grows hb1);have bL:=((aG.kV w (.cells #[.slice sA sm sk,.slice rA rm rk,.slice eA em ek,.slice aA am ak,.slice oA om ok,.slice iA im ik] 50) 25 #[.int .i64 tO.lv,.int .u32 (tO.c:Int)]).grows hb1);have fM:=((((ah.refl w).alloc (.cells #[.slice sA sm sk,.slice rA rm rk,.slice eA em ek,.slice aA am ak,.slice oA om ok,.slice iA im ik] 50)).alloc (.cells #[.int .i64 tO.lv,.int .u32 (tO.c:Int)] 25)).trans hb1);replace hs0:=fM.cell hs0;replace hs1:=fM.cell hs1;replace hs2:=fM.cell hs2;replace hs3:=fM.cell hs3;replace hs4:=fM.cell hs4;replace hs5:=fM.cell hs5;replace hxb:=Nat.lt_of_lt_of_le hxb fM.size;have hsz:=fM.size;clear hb1 cR;cases AB with
 | false=>
  go_wp2;go_ret;exact⟨_,rfl,by rw[hQ.o];exact Own.iO _ _ _ _ _,fM⟩
 | true=>
  have p0:=bP.c0;have p1:=bP.c1;have p2:=bP.c2;have p3:=bP.c3;have p4:=bP.c4;have p5:=bP.c5;have pl:=bP.lt;go_wp2_with fail;refine (cK.out _ fM).mono ?_;rintro e w2 ⟨rfl,hb2⟩;replace bP:=bP.grows hb2;replace bL:=bL.grows hb2;have gK:=fM.trans hb2;replace hs0:=hb2.cell hs0;replace hs1:=hb2.cell hs1;replace hs2:=hb2.cell hs2;replace hs3:=hb2.cell hs3;replace hs4:=hb2.cell hs4;replace hs5:=hb2.cell hs5;replace hxb:=Nat.lt_of_lt_of_le hxb hb2.size;replace hsz:=gK.size;clear hb2 cK fM p0 p1 p2 p3 p4 p5 pl;by_cases uO:CK=0
  ·subst uO;replace hQ:Hid (Q=auS CU fun c=>FF c tO now im):=ζ (by rw[hQ.o];simp);have p0:=bP.c0;have p1:=bP.c1;have p2:=bP.c2;have p3:=bP.c3;have p4:=bP.c4;have p5:=bP.c5;have pl:=bP.lt;have l0:=bL.c0;have l1:=bL.c1;have ll:=bL.lt;have aP:=ζ (ah.refl w2);replace bP:=ζ bP;replace bL:=ζ bL;replace gK:=ζ gK;go_wp2_with fail;apply Ij (is:=[45,38,46,47,11,12]) (R:=aCD w2 w.heap.size CU 11 12)
   case h1=>
    refine aF κ ?_;refine rK (.range 6) 7 ?_;iterate 6 refine ay ?_
    refine aB ?_;refine aI [6,10] κ σ (fun wN hN hS=>(au.cons rfl (fun K' hK=> ?_) (au.cons rfl (fun K' hK=> ?_) au.nil)))
    ·skip
     try replace iQ:=ζ (iQ.o.grows hN)
     try replace pR:=ζ (pR.o.grows hN)
     try replace aP:=ζ (aP.o.trans hN)
     clear hN;go_simp;refine (cC.out _ (gK.o.trans aP.o)).mono ?_;rintro e w5 ⟨v5,rfl,ZM,fK⟩;have pR:=ζ (ZM.bK (b':=w.heap.size) (by have:=(gK.o.trans aP.o).size;omega));obtain⟨vs,vA,vm,vk,vlv,vc,vf,vt,rfl⟩:=qm.form ZM;try replace iQ:=ζ (iQ.o.grows fK)
     replace aP:=ζ (aP.o.trans fK);refine hK.o _ _ ?_ (fun hS=> ?_)
     ·exact aP.o
     clear fK ZM;clear hK hS;refine rK [7,8,9] 3 ?_;iterate 3 refine ay ?_
     refine aB ?_;refine aI [10] κ σ (fun wN hN hS=>(au.cons rfl (fun K' hK=> ?_) au.nil));try replace iQ:=ζ (iQ.o.grows hN)
     try replace pR:=ζ (pR.o.grows hN)
     try replace aP:=ζ (aP.o.trans hN)
     clear hN;go_simp;have iQ:=ζ (aG.new wN 57 BP);have C9:Hid (w2.heap.size≤wN.heap.size):=ζ aP.o.size;replace aP:=ζ (aP.o.alloc (.cells BP 57));try replace pR:=ζ (pR.o.grows ((ah.refl wN).alloc (.cells BP 57)))
     refine hK.o _ _ ?_ (fun hS=> ?_)
     ·exact aP.o
     generalize wN.heap.size=gc at *
     clear hK hS;refine aI [11] κ σ (fun wN hN hS=>(au.cons rfl (fun K' hK=> ?_) au.nil));try replace iQ:=ζ (iQ.o.grows hN)
     try replace pR:=ζ (pR.o.grows hN)
     try replace aP:=ζ (aP.o.trans hN)
     clear hN;have b0:=iQ.o;have k0:=pR.o;have g0:=aP.o;have b1:=b0.bH 0 (.string vs);have k1:=k0.far (n:=0) b0 (.string vs);have g1:=g0.setCell (p:=⟨gc,0,none⟩) C9.o (.string vs);have b2:=b1.bH 1 (.slice vA vm vk);have k2:=k1.far (n:=1) b1 (.slice vA vm vk);have g2:=g1.setCell (p:=⟨gc,1,none⟩) C9.o (.slice vA vm vk);have b3:=b2.bH 2 (.int .i64 vlv);have k3:=k2.far (n:=2) b2 (.int .i64 vlv);have g3:=g2.setCell (p:=⟨gc,2,none⟩) C9.o (.int .i64 vlv);have b4:=b3.bH 3 (.int .u32 vc);have k4:=k3.far (n:=3) b3 (.int .u32 vc);have g4:=g3.setCell (p:=⟨gc,3,none⟩) C9.o (.int .u32 vc);have b5:=b4.bH 4 (.int .i64 vf);have k5:=k4.far (n:=4) b4 (.int .i64 vf);have g5:=g4.setCell (p:=⟨gc,4,none⟩) C9.o (.int .i64 vf);have b6:=b5.bH 5 (.int .i64 vt);have k6:=k5.far (n:=5) b5 (.int .i64 vt);have g6:=g5.setCell (p:=⟨gc,5,none⟩) C9.o (.int .i64 vt);obtain⟨z0,z1,z2,z3,z4,z5,zf,zl⟩:=qG iQ.o;have iQ:=ζ b6;have pR:=ζ k6;have aP:=ζ g6;clear b0 k0 g0 b1 k1 g1 b2 k2 g2 b3 k3 g3 b4 k4 g4 b5 k5 g5 b6 k6 g6;go_simp;refine hK.o _ _ ?_ (fun hS=> ?_)
     ·exact aP.o
     clear z0 z1 z2 z3 z4 z5 zf zl;generalize ((((((wN.setCell ⟨gc,0,none⟩ (.string vs)).setCell ⟨gc,1,none⟩ (.slice vA vm vk)).setCell ⟨gc,2,none⟩ (.int .i64 vlv)).setCell ⟨gc,3,none⟩ (.int .u32 vc)).setCell ⟨gc,4,none⟩ (.int .i64 vf)).setCell ⟨gc,5,none⟩ (.int .i64 vt))=w9 at *
     clear hK hS;refine rK [12] 0 ?_;iterate 1 refine ay ?_
     refine aB ?_;refine aH κ (fun wN hN hS=> ?_);try replace iQ:=ζ (iQ.o.grows hN)
     try replace pR:=ζ (pR.o.grows hN)
     try replace aP:=ζ (aP.o.trans hN)
     refine⟨(by
      simp only[iy,List.foldl_cons,List.foldl_nil];go_simp;try rfl
     ),gc,vs,vA,vm,vk,vlv,vc,vf,vt,rfl,rfl,iQ.o,pR.o,aP.o,C9.o⟩
    ·skip
     try replace iQ:=ζ (iQ.o.grows hN)
     try replace pR:=ζ (pR.o.grows hN)
     try replace aP:=ζ (aP.o.trans hN)
     clear hN;go_simp;have iQ:=ζ (aG.new wN 57 BP);have C9:Hid (w2.heap.size≤wN.heap.size):=ζ aP.o.size;replace aP:=ζ (aP.o.alloc (.cells BP 57));try replace pR:=ζ (pR.o.grows ((ah.refl wN).alloc (.cells BP 57)))
     refine hK.o _ _ ?_ (fun hS=> ?_)
     ·exact aP.o
     generalize wN.heap.size=gc at *
     clear hK hS;refine aI [6] κ σ (fun wN hN hS=>(au.cons rfl (fun K' hK=> ?_) au.nil));try replace iQ:=ζ (iQ.o.grows hN)
     try replace pR:=ζ (pR.o.grows hN)
     try replace aP:=ζ (aP.o.trans hN)
     clear hN;go_simp;refine (cC.out _ (gK.o.trans aP.o)).mono ?_;rintro e w5 ⟨v5,rfl,ZM,fK⟩;have pR:=ζ (ZM.bK (b':=w.heap.size) (by have:=(gK.o.trans aP.o).size;omega));obtain⟨vs,vA,vm,vk,vlv,vc,vf,vt,rfl⟩:=qm.form ZM;try replace iQ:=ζ (iQ.o.grows fK)
     replace aP:=ζ (aP.o.trans fK);refine hK.o _ _ ?_ (fun hS=> ?_)
     ·exact aP.o
     clear fK ZM;clear hK hS;refine rK [7,8,9] 2 ?_;iterate 3 refine ay ?_
     refine aB ?_;refine aI [11] κ σ (fun wN hN hS=>(au.cons rfl (fun K' hK=> ?_) au.nil));try replace iQ:=ζ (iQ.o.grows hN)
     try replace pR:=ζ (pR.o.grows hN)
     try replace aP:=ζ (aP.o.trans hN)
     clear hN;have b0:=iQ.o;have k0:=pR.o;have g0:=aP.o;have b1:=b0.bH 0 (.string vs);have k1:=k0.far (n:=0) b0 (.string vs);have g1:=g0.setCell (p:=⟨gc,0,none⟩) C9.o (.string vs);have b2:=b1.bH 1 (.slice vA vm vk);have k2:=k1.far (n:=1) b1 (.slice vA vm vk);have g2:=g1.setCell (p:=⟨gc,1,none⟩) C9.o (.slice vA vm vk);have b3:=b2.bH 2 (.int .i64 vlv);have k3:=k2.far (n:=2) b2 (.int .i64 vlv);have g3:=g2.setCell (p:=⟨gc,2,none⟩) C9.o (.int .i64 vlv);have b4:=b3.bH 3 (.int .u32 vc);have k4:=k3.far (n:=3) b3 (.int .u32 vc);have g4:=g3.setCell (p:=⟨gc,3,none⟩) C9.o (.int .u32 vc);have b5:=b4.bH 4 (.int .i64 vf);have k5:=k4.far (n:=4) b4 (.int .i64 vf);have g5:=g4.setCell (p:=⟨gc,4,none⟩) C9.o (.int .i64 vf);have b6:=b5.bH 5 (.int .i64 vt);have k6:=k5.far (n:=5) b5 (.int .i64 vt);have g6:=g5.setCell (p:=⟨gc,5,none⟩) C9.o (.int .i64 vt);obtain⟨z0,z1,z2,z3,z4,z5,zf,zl⟩:=qG iQ.o;have iQ:=ζ b6;have pR:=ζ k6;have aP:=ζ g6;clear b0 k0 g0 b1 k1 g1 b2 k2 g2 b3 k3 g3 b4 k4 g4 b5 k5 g5 b6 k6 g6;go_simp;refine hK.o _ _ ?_ (fun hS=> ?_)
     ·exact aP.o
     clear z0 z1 z2 z3 z4 z5 zf zl;generalize ((((((wN.setCell ⟨gc,0,none⟩ (.string vs)).setCell ⟨gc,1,none⟩ (.slice vA vm vk)).setCell ⟨gc,2,none⟩ (.int .i64 vlv)).setCell ⟨gc,3,none⟩ (.int .u32 vc)).setCell ⟨gc,4,none⟩ (.int .i64 vf)).setCell ⟨gc,5,none⟩ (.int .i64 vt))=w9 at *
     clear hK hS;refine rK [12] 0 ?_;iterate 1 refine ay ?_
     refine aB ?_;refine aH κ (fun wN hN hS=> ?_);try replace iQ:=ζ (iQ.o.grows hN)
     try replace pR:=ζ (pR.o.grows hN)
     try replace aP:=ζ (aP.o.trans hN)
     refine⟨(by
      simp only[iy,List.foldl_cons,List.foldl_nil];go_simp;try rfl
     ),gc,vs,vA,vm,vk,vlv,vc,vf,vt,rfl,rfl,iQ.o,pR.o,aP.o,C9.o⟩
   intro fz w3 hR;obtain⟨gc,vs,vA,vm,vk,vlv,vc,vf,vt,e11,e12,iQ,pR,hb3,C9⟩:=hR;simp only[lU,List.foldl_cons,List.foldl_nil,e11,e12];replace bP:=ζ (bP.out.grows hb3);replace bL:=ζ (bL.out.grows hb3);have qp:=ζ (gK.o.trans hb3);replace hs0:=hb3.cell hs0;replace hs1:=hb3.cell hs1;replace hs2:=hb3.cell hs2;replace hs3:=hb3.cell hs3;replace hs4:=hb3.cell hs4;replace hs5:=hb3.cell hs5;replace hxb:=Nat.lt_of_lt_of_le hxb hb3.size;replace iQ:=ζ iQ;have afP:=qp.o.size;clear hb3 aP p0 p1 p2 p3 p4 p5 pl l0 l1 ll cC gK hsz e11 e12;cases CU with
   | none=>
    simp only[Option.isSome_none];go_wp2;go_ret;exact⟨_,rfl,by rw[hQ.o];exact Own.iO _ _ _ _ _,qp.o⟩
   | some c=>
    obtain⟨cA,ck,hce,kY⟩:=pR;unfold iV at hce;simp only[Value.agg.injEq,Array.mk.injEq,List.cons.injEq,and_true,Value.string.injEq,Value.slice.injEq,Value.int.injEq,true_and] at hce;obtain⟨rfl,⟨rfl,rfl,rfl⟩,rfl,rfl,rfl,rfl⟩:=hce;obtain⟨hcT,qF⟩:=Pn.o (by first | exact trivial | rfl) c rfl;obtain⟨A',c',hcv,-,-,hX⟩:=kY.arr JB;simp only[Value.slice.injEq,true_and] at hcv;obtain⟨rfl,rfl⟩:=hcv;have az0:=ζ (fun j r b h1 h2=>hst.o c j r b h1 h2);have aAz:=ζ (fun j=>Qv.o c j);have aB5:FF c tO now 0=[]:=Nq.o c;have hQ1:Hid (Q=FF c tO now im):=hQ;have cB1:=ζ (fun (r:yH) (hr:r∈i) W (hW:ah w W) (hX:bW W 2 dZ vA c.fs.length c.fs)=>cB.out r hr ⟨c,vA,c.fs.length,vk⟩ ID W hW hX qF hcT);have cI1:=ζ (cI.out (by first | exact trivial | rfl) _ qp.o);clear hst Qv Nq hQ Pn cB cI;obtain⟨Jl,N7,⟨clv,clc⟩,cf0,ct0⟩:=c;simp only[Option.isSome_some] at *
    generalize WC:N7.length=L at *
    replace WC:=ζ WC;replace hX:=ζ hX;generalize hFF:FF ⟨Jl,N7,⟨clv,clc⟩,cf0,ct0⟩ tO now=F at *
    clear hFF hcT kY;go_wp2_with fail;refine cI1.out.mono ?_;rintro e w4 ⟨rfl,hb4⟩;replace bP:=ζ (bP.out.grows hb4);replace bL:=ζ (bL.out.grows hb4);replace iQ:=ζ (iQ.o.grows hb4);replace hX:=ζ (hX.o.keep hb4);have rJ:=ζ (qp.o.trans hb4);have ang:=rJ.o.size;have aGn:=iQ.o.lt;have p5:=bP.out.c5;have pl:=bP.out.lt;clear cI1 hb4 hs0 hs1 hs2 hs3 hs4 hs5 hxb qp afP C9;go_wp2;go_loopw [13,15,16,58] (fun v _ _ n wr=>∃j:Nat,j≤im∧n =.int .i64 (j:Int)∧Hid (Own wr w4.heap.size 3 1 encI v (F j))∧Hid (ah w4 wr)) (fun _ _ _ n _=>im-(intOf n).toNat)
    case atStart=>exact⟨0,ω,rfl,by rw[aB5];exact Own.iO _ _ _ _ _,ζ (ah.refl _)⟩
    case round=>
     obtain⟨j,hj,rfl,hO,AO⟩:=hrel;by_cases hjm:j < im
     ·obtain⟨bb,off,r,hiA,CW,hr,hcell⟩:=(Uo.o.keep (rJ.o.trans AO.o)).at_ hjm;subst hiA;have c0:wr.cell? ⟨bb,off+j * 5,none⟩=some (.slice r.bA r.bm r.bk):=hcell 0 _ rfl;have c1:wr.cell? ⟨bb,off+j * 5+1,none⟩=some (.int .i64 r.i.l.lv):=hcell 1 _ rfl;have c2:wr.cell? ⟨bb,off+j * 5+2,none⟩=some (.int .u32 (r.i.l.c:Int)):=hcell 2 _ rfl;have c3:wr.cell? ⟨bb,off+j * 5+3,none⟩=some (.slice r.fA r.fm r.fk):=hcell 3 _ rfl;have c4:wr.cell? ⟨bb,off+j * 5+4,none⟩=some (.slice r.wA r.wm r.wk):=hcell 4 _ rfl;have Xl:(j:Int)<(im:Int):=ω;have hrm:=List.mem_of_getElem? hr;have hs1:=az0.o j r;have cFr:=cF.out r hrm;have cBr:=cB1.out r hrm;have ZR:=bL.out.grows AO.o;have l0:=ZR.c0;have l1:=ZR.c1;have ll:=ZR.lt;have hlk:=aAz.o j;unfold XE at cBr;generalize byI ft r.i (xs.map (·.a)) ID ⟨Jl,N7,⟨clv,clc⟩,cf0,ct0⟩ now=BY at *
      generalize eU r.i.l tO=FW at *
      replace hs1:=ζ (hs1 _ hr rfl);replace cFr:=ζ cFr;replace cBr:=ζ cBr;replace hlk:=ζ hlk;have aGj:=AO.o.size;clear hcell ZR hr hrm;go_wp2_with fail;refine (cFr.out _).mono ?_;rintro e w5 ⟨rfl,fK⟩;have oP:=ζ ((AO.o.alloc (.cells #[.slice r.bA r.bm r.bk,.int .i64 r.i.l.lv,.int .u32 (r.i.l.c:Int),.slice r.fA r.fm r.fk,.slice r.wA r.wm r.wk] 77)).trans fK);have mJ:=ζ ((hO.o.alloc (.cells #[.slice r.bA r.bm r.bk,.int .i64 r.i.l.lv,.int .u32 (r.i.l.c:Int),.slice r.fA r.fm r.fk,.slice r.wA r.wm r.wk] 77)).grows fK);have hR5:=(aG.new wr 77 #[.slice r.bA r.bm r.bk,.int .i64 r.i.l.lv,.int .u32 (r.i.l.c:Int),.slice r.fA r.fm r.fk,.slice r.wA r.wm r.wk]).grows fK;clear fK c0 c1 c2 c3 c4 l0 l1 ll AO hO cFr;cases FW with
      | false=>
       have hF:Hid (F (j + 1)=F j):=ζ (by rw[hs1.o];simp);go_wp2;go_roundw
       case rel=>exact⟨j + 1,ω,ν,by rw[hF.o];exact mJ,oP⟩
       case measure=>exact ψ
      | true=>
       have r0:=hR5.c0;have r1:=hR5.c1;have r2:=hR5.c2;have r3:=hR5.c3;have r4:=hR5.c4;have rl:=hR5.lt;have hk5:=iQ.o.grows oP.o;have a0:=hk5.c0;have a1:=hk5.c1;have a2:=hk5.c2;have a3:=hk5.c3;have a4:=hk5.c4;have a5:=hk5.c5;have al:=hk5.lt;clear hR5 hk5;go_wp2_with fail;refine (cBr.out _ (rJ.o.trans oP.o) (hX.o.keep oP.o)).mono ?_;rintro e w6 ⟨rfl,Et⟩;have Fq:=ζ (oP.o.trans Et);have uz:=ζ (mJ.o.grows Et);have anf:=Fq.o.size;clear Et r0 r1 r2 r3 r4 rl a0 a1 a2 a3 a4 a5 al oP mJ cBr;cases BY with
       | false=>
        have hF:Hid (F (j + 1)=F j):=ζ (by rw[hs1.o];simp);go_wp2;go_roundw
        case rel=>exact⟨j + 1,ω,ν,by rw[hF.o];exact uz,Fq⟩
        case measure=>exact ψ
       | true=>
        have hF:Hid (F (j + 1)=F j ++[j]):=ζ (by rw[hs1.o];simp);go_wp2_with (at_builtin;refine dB (x:=j) aoT rfl (.tmp 75) (.tmp 77) rfl (uz.o.alloc _) rfl ⟨w6.heap.size,0,none⟩ rfl rfl (iK (by exact heap_alloc_new w6 _)) (VE j) (by simp;omega) (by have:=hlk.o;unfold maxLen;omega) (by have:=hlk.o;omega) (fun v7 w7 rH hgr qU=> ?_);(have Xo:=ζ ((Fq.o.alloc _).aQ hgr (fun g hg=>uz.o.iC g hg)));(replace rH:=ζ rH);clear hgr qU);go_roundw
        case rel=>exact⟨j + 1,ω,ν,by rw[hF.o];exact rH,Xo⟩
        case measure=>exact ψ
     ·obtain rfl:j = im:=ω;go_wp2;go_ret;exact⟨_,rfl,by rw[hQ1.o];exact hO.o.bK ω,rJ.o.trans AO.o⟩
  ·go_wp2;go_ret;have hQ0:Q=[]:=by rw[hQ.o];simp[uO]
   exact⟨_,rfl,by rw[hQ0];exact Own.iO _ _ _ _ _,gK⟩
def Cj (p:fQ) (l:List iH) (id:Nat) (tt:gy) (now:Int) (k:Nat):List (Bool×List bM):=(l.take k).filterMap (pJ p id tt now)
def kP (p:fQ) (l:List iH) (id:Nat) (tt:gy) (now:Int) (k:Nat) (o:Option nK):Prop:=(∀c∈Cj p l id tt now k,c.1=false)∧match o with
 | none=>Cj p l id tt now k=[]
 | some x=>x.t.id=id∧x.t.jM=false∧(Cj p l id tt now k).head? =some (false,x.t.fs)
section
variable {p:fQ} {l:List iH} {id:Nat} {tt:gy} {now:Int} {k:Nat} {o:Option nK} {a:iH}
theorem zZ (hr:l[k]? = some a):Cj p l id tt now (k+1)=Cj p l id tt now k++(pJ p id tt now a).toList:=by
 unfold Cj;rw[List.take_add_one,hr,List.filterMap_append];simp only[Option.toList_some];rw[List.filterMap_cons];cases pJ p id tt now a <;> simp
theorem kP.start:kP p l id tt now 0 none:=⟨fun c hc=>by simp[Cj] at hc,by simp[Cj]⟩
theorem kP.skip (h:kP p l id tt now k o) (hr:l[k]? = some a) (hc:pJ p id tt now a = none):kP p l id tt now (k+1) o:=by
 unfold kP at *
 rw[zZ hr,hc];simpa using h
theorem kP.first (h:kP p l id tt now k none) (hr:l[k]? = some a) {fs:List bM} (hc:pJ p id tt now a = some (false,fs)) {x:nK} (hx:x.t = ⟨id,false,fs⟩):kP p l id tt now (k+1) (some x):=by
 unfold kP at *
 rw[zZ hr,hc,h.2];simp[hx]
theorem kP.more {x:nK} (h:kP p l id tt now k (some x)) (hr:l[k]? = some a) {fs:List bM} (hc:pJ p id tt now a = some (false,fs)):kP p l id tt now (k+1) (some x):=by
 obtain⟨h1,h2,h3,h4⟩:=h;refine⟨?_,h2,h3,?_⟩
 ·rw[zZ hr,hc];intro c hcm;rcases List.mem_append.1 hcm with hcm | hcm
  ·exact h1 c hcm
  ·simp at hcm;rw[hcm]
 ·rw[zZ hr,hc];rw[List.head?_append,h4];rfl
theorem PV {S:List (Bool×List bM)} (h:∀c∈S,c.1=false):S.find? (·.1)=none:=by
 rw[List.find?_eq_none];intro x hx;rw[h x hx];simp
theorem kP.fire (h:kP p l id tt now k o) (hr:l[k]? = some a) {fs:List bM} (hc:pJ p id tt now a = some (true,fs)):Eo p l id tt now=some ⟨id,true,fs⟩:=by
 have e:l.filterMap (pJ p id tt now)=Cj p l id tt now k++(true,fs)::(l.drop (k+1)).filterMap (pJ p id tt now):=by
  have hk:=(List.getElem?_eq_some_iff.1 hr).1;have hd:l.drop k=a ::l.drop (k+1):=by
   rw[List.drop_eq_getElem_cons hk];rw[List.getElem?_eq_getElem hk] at hr;injection hr with hr
   rw[hr]
  conv=>lhs;rw[←List.take_append_drop k l]
  rw[List.filterMap_append,hd,List.filterMap_cons,hc];rfl
 unfold Eo;rw[e,List.find?_append,PV h.1];simp
theorem kP.done (h:kP p l id tt now l.length o):Eo p l id tt now=o.map (·.t):=by
 have e:l.filterMap (pJ p id tt now)=Cj p l id tt now l.length:=by unfold Cj;rw[List.take_length]
 unfold Eo;rw[e,PV h.1];obtain⟨h1,h2⟩:=h;cases o with
 | none=>simp only at h2;rw[h2];rfl
 | some x=>
  obtain⟨h3,h4,h5⟩:=h2;rw[h5];obtain⟨⟨i,f,s⟩,A,m,k⟩:=x;simp only at h3 h4;subst h3 h4;rfl
end
def ru (w:World) (base:Nat) (x:nK):Prop:=Own w base 88 2 dZ (.slice x.A x.m x.k) x.t.fs∧x.m≤1000∧∀f∈x.t.fs,f.v.length≤1000000
theorem ru.grows {w w':World} {base:Nat} {x:nK} (h:ru w base x) (hg:ah w w'):ru w' base x:=⟨h.1.grows hg,h.2⟩
theorem ru.bK {w:World} {base b:Nat} {x:nK} (h:ru w base x) (hb:b≤base):ru w b x:=⟨h.1.bK hb,h.2⟩
theorem ru.fP {w w':World} {base:Nat} {x:nK} {row:Option Nat} (h:ru w base x) (hg:w.grownBy w' row) (hr:∀j,row=some j→(Value.slice x.A x.m x.k).ownBlock≠some j):ru w' base x:=⟨h.1.kept' hg hr,h.2⟩
theorem ru.far {w:World} {base g i:Nat} {x:nK} {t:TypeId} {cs:Array Value} (h:ru w base x) (hB:aG w g t cs) (ht:88≠t) (u:Value):ru (w.setCell ⟨g,i,none⟩ u) base x:=
 h.fP (aj w ⟨g,i,none⟩ u) (fun j hj=>by injection hj with hj;subst hj;exact aZ h.1 hB ht)
theorem ru.at_ {w:World} {base:Nat} {x:nK} (h:ru w base x):x.At w:=by
 obtain⟨A,c,hv,-,-,hX⟩:=h.1.arr JB;injection hv with h1 h2 h3
 subst h1 h3;exact⟨by rw[h2];exact hX,h.2.1,h.2.2⟩
def RN (o:Option nK):Array Value:=match o with
 | none=> #[.int .u64 0,.bool false,.slice none 0 0]
 | some x=> #[.int .u64 (x.t.id:Int),.bool x.t.jM,.slice x.A x.m x.k]
theorem TD (o:Option nK):∃(i:Int) (b:Bool) (A:Option Addr) (m k:Nat),RN o = #[.int .u64 i,.bool b,.slice A m k]:=by cases o <;> exact⟨_,_,_,_,_,rfl⟩
theorem ak7 {w wM:World} {g:Nat} {y:nK} (hZ:aG wM g 65 #[.int .u64 0,.bool false,.slice none 0 0]) (hG:ah w wM) (qE:w.heap.size≤g) (hO:ru wM w.heap.size y) (i:Int) (b:Bool) (A:Option Addr) (m k:Nat) :
 aG (((wM.setCell ⟨g,0,none⟩ (.int .u64 i)).setCell ⟨g,1,none⟩ (.bool b)).setCell ⟨g,2,none⟩ (.slice A m k)) g 65 #[.int .u64 i,.bool b,.slice A m k]∧ah w (((wM.setCell ⟨g,0,none⟩ (.int .u64 i)).setCell ⟨g,1,none⟩ (.bool b)).setCell ⟨g,2,none⟩ (.slice A m k))∧ru (((wM.setCell ⟨g,0,none⟩ (.int .u64 i)).setCell ⟨g,1,none⟩ (.bool b)).setCell ⟨g,2,none⟩ (.slice A m k)) w.heap.size y:=by
 have h0:=hZ.bH 0 (.int .u64 i);have h1:=h0.bH 1 (.bool b);have h2:=h1.bH 2 (.slice A m k);refine⟨h2.cast σ,?_,((hO.far hZ δ _).far h0 δ _).far h1 δ _⟩;exact ah.setCell (ah.setCell (ah.setCell hG (p:=⟨g,0,none⟩) qE _) (p:=⟨g,1,none⟩) qE _) (p:=⟨g,2,none⟩) qE _
theorem ajm {p:bQ} {tt:gy} {lA:Option Addr} {lm lk:Nat} {xs:List dD} {id:Nat} {now:Int} (w:World) (hp:p.At w) (hA:bW w 6 tH lA lm xs) (hat:∀a∈xs,a.At w) (Jz:lm≤1000) (oC:tt.ok) :
 Calls Tryz.prog 82 #[p.val,.slice lA lm lk,.int .u64 (id:Int),.agg #[.int .i64 tt.lv,.int .u32 (tt.c:Int)],.int .i64 now] w fun e w'=>∃o:Option nK,e =.returned (.tuple #[.agg (RN o),.bool o.isSome])∧o.map (·.t)=Eo p.aU (xs.map (·.a)) id tt now∧(∀x,o = some x→ru w' w.heap.size x)∧ah w w':=by
 have kN:=hA.1;have cC:=ζ (fun (a:dD) (ha:a∈xs) W (hW:ah w W)=>DZ W (hp.keep hW) ((hat a ha).keep hW) oC);have cR:=ζ (fun (a:dD) (ha:a∈xs) W (hW:ah w W)=>wB W ((hat a ha).keep hW));have cI:=ζ (fun (c:dD) W (hr:bg c.a = true) (h:bW W 2 dZ c.A c.m c.a.fs)=>VT W h (by have:=(gQ hr).1;omega) (by have:=(gQ hr).2.1;have h2:=h.1;omega) (fun f hf=>((gQ hr).2.2 f hf).1));have ajR:kP p.aU (xs.map (·.a)) id tt now 0 none:=kP.start;have Nj:=ζ (fun (a:iH) (h:iR p.aU a tt=none)=>show pJ p.aU id tt now a = none by unfold pJ;rw[h]);have wV:=ζ (fun (a c:iH) (h:iR p.aU a tt=some c) (h1:bg a = false)=>show pJ p.aU id tt now a = none by unfold pJ;rw[h];simp[h1]);have nM:=ζ (fun (a c:iH) (h:iR p.aU a tt=some c) (h1:¬CV c = id)=>show pJ p.aU id tt now a = none by unfold pJ;rw[h];simp[h1]);have je:=ζ (fun (a c:iH) (h:iR p.aU a tt=some c) (h1:bg a = true) (h2:CV c = id)=>show pJ p.aU id tt now a = some (eX a now,c.fs) by unfold pJ;rw[h];simp[h1,h2]);have avd:=ζ (fun k o (x:dD) (h:kP p.aU (xs.map (·.a)) id tt now k o) (hr:xs[k]? = some x) hc=>h.skip (a:=x.a) (by rw[List.getElem?_map,hr];rfl) hc);have arw:=ζ (fun k (x:dD) (h:kP p.aU (xs.map (·.a)) id tt now k none) (hr:xs[k]? = some x) fs hc (t:nK) ht=>h.first (a:=x.a) (by rw[List.getElem?_map,hr];rfl) (fs:=fs) hc (x:=t) ht);have avx:=ζ (fun k (x:dD) t (h:kP p.aU (xs.map (·.a)) id tt now k (some t)) (hr:xs[k]? = some x) fs hc=>h.more (a:=x.a) (by rw[List.getElem?_map,hr];rfl) (fs:=fs) hc);have av7:=ζ (fun k o (x:dD) (h:kP p.aU (xs.map (·.a)) id tt now k o) (hr:xs[k]? = some x) fs hc=>h.fire (a:=x.a) (by rw[List.getElem?_map,hr];rfl) (fs:=fs) hc);have hdone:=ζ (fun o (h:kP p.aU (xs.map (·.a)) id tt now lm o)=>kP.done (l:=xs.map (·.a)) (o:=o) (by rw[List.length_map,kN];exact h));have hcr:=ζ (fun (a c:iH) (h:iR p.aU a tt=some c) (hr:bg a = true)=>AV h hr);generalize Eo p.aU (xs.map (·.a)) id tt now=RES at *
 clear hp hat kN;replace hA:=ζ hA;generalize hpp:p.aU=aU at *
 unfold bQ.val at *
 clear hpp;obtain⟨⟨sl,sA,sm,sk⟩,⟨rl,rA,rm,rk⟩,⟨el,eA,em,ek⟩,⟨al,aA,am,ak⟩,o,oA,om,ok,i,iA,im,ik⟩:=p;simp only at cC ⊢;generalize hSt:kP aU (xs.map (·.a)) id tt now=ST at *
 go_enter Tryz.func82,Tryz.ntmps82
 go_wp2;go_loopw [13,15,16,17,18,21] (fun fnd _ _ _ _ i wr=>∃(k:Nat) (o:Option nK),k≤lm∧i =.int .i64 (k:Int)∧fnd=.bool o.isSome∧Hid (ST k o)∧Hid (∀x,o = some x→ru wr w.heap.size x)∧Hid (aG wr (w.heap.size+1+1+1) 65 (RN o))∧Hid (aG wr w.heap.size 50 #[.slice sA sm sk,.slice rA rm rk,.slice eA em ek,.slice aA am ak,.slice oA om ok,.slice iA im ik])∧Hid (aG wr (w.heap.size+1) 25 #[.int .i64 tt.lv,.int .u32 (tt.c:Int)])∧Hid (aG wr (w.heap.size+1+1) 65 #[.int .u64 0,.bool false,.slice none 0 0])∧Hid (ah w wr)) (fun _ _ _ _ _ i _=>lm-(intOf i).toNat)
 case atStart=>exact⟨0,none,ω,rfl,rfl,ajR,(fun x h=>by cases h),aG.abh w _ _ _ _ _,(((aG.new w _ _).alloc _).alloc _).alloc _,((aG.kV w _ _ _).alloc _).alloc _,(aG.Bh w _ _ _ _).alloc _,((((ah.refl w).alloc _).alloc _).alloc _).alloc _⟩
 case round=>
  obtain⟨k,o,hk,rfl,rfl,hst,hoa,hT,hB,hL,hZ,hG⟩:=hrel;by_cases qC:k<lm
  ·obtain⟨bb,off,x,rfl,CW,hx,hcell⟩:=(hA.o.keep hG.o).at_ qC;have c0:wr.cell? ⟨bb,off+k*6,none⟩=some (.string ⟨x.a.src.toArray⟩):=hcell 0 _ rfl;have c1:wr.cell? ⟨bb,off+k*6+1,none⟩=some (.slice x.A x.m x.k):=hcell 1 _ rfl;have c2:wr.cell? ⟨bb,off+k*6+2,none⟩=some (.int .i64 x.a.l.lv):=hcell 2 _ rfl;have c3:wr.cell? ⟨bb,off+k*6+3,none⟩=some (.int .u32 (x.a.l.c:Int)):=hcell 3 _ rfl;have c4:wr.cell? ⟨bb,off+k*6+4,none⟩=some (.int .i64 x.a.f):=hcell 4 _ rfl;have c5:wr.cell? ⟨bb,off+k*6+5,none⟩=some (.int .i64 x.a.t):=hcell 5 _ rfl;have kX:(k:Int)<(lm:Int):=ω;have wL:=List.mem_of_getElem? hx;have UY:=cC.out x wL;have UW:=cR.out x wL;have KU:=DX x now;have hsk:=ζ (avd.o k o x hst.o hx);have JD:=ζ (av7.o k o x hst.o hx);have ZN:Hid (∀fs,pJ aU id tt now x.a = some (false,fs)→∀t:nK,t.t = ⟨id,false,fs⟩→ST (k+1) (some (o.getD t))):=ζ (by
    cases o with
    | none=>exact fun fs h t ht=>arw.o k x hst.o hx fs h t ht
    | some y=>exact fun fs h t _=>avx.o k x y hst.o hx fs h)
   have hq0:=ζ (Nj.o x.a);have hq1:=ζ (wV.o x.a);have Sm:=ζ (nM.o x.a);have hq3:=ζ (je.o x.a);have aAX:=ζ (fun c h hr=>hcr.o x.a c h hr);have p0:=hB.o.c0;have p1:=hB.o.c1;have p2:=hB.o.c2;have p3:=hB.o.c3;have p4:=hB.o.c4;have p5:=hB.o.c5;have l0:=hL.o.c0;have l1:=hL.o.c1;have pl:=hB.o.lt;have ll:=hL.o.lt;have hsz:=hG.o.size;unfold iV at UY UW KU;generalize hCU:iR aU x.a tt=CU at *
   generalize hAB:bg x.a = AB at *
   generalize hFB:eX x.a now=FB at *
   generalize pJ aU id tt now x.a = OC at *
   replace UY:=ζ UY;replace UW:=ζ UW;replace KU:=ζ KU;have jL:=ζ ((ah.refl wr).alloc (.cells #[.string ⟨x.a.src.toArray⟩,.slice x.A x.m x.k,.int .i64 x.a.l.lv,.int .u32 (x.a.l.c:Int),.int .i64 x.a.f,.int .i64 x.a.t] 57));clear hcell hx wL hCU hAB hFB hst;go_wp2_with fail;refine (UY.out _ (hG.o.trans jL.o)).mono ?_;rintro e w1 ⟨v,rfl,hcut,hb⟩;replace jL:=ζ (jL.o.trans hb);have BD:=ζ ((aG.new wr 57 #[.string ⟨x.a.src.toArray⟩,.slice x.A x.m x.k,.int .i64 x.a.l.lv,.int .u32 (x.a.l.c:Int),.int .i64 x.a.f,.int .i64 x.a.t]).grows hb);obtain⟨vs,vA,vm,vk,vlv,vc,vf,vt,rfl⟩:=qm.form hcut;have x0:=BD.o.c0;have x1:=BD.o.c1;have x2:=BD.o.c2;have x3:=BD.o.c3;have x4:=BD.o.c4;have x5:=BD.o.c5;have xz:=BD.o.lt;clear hb c0 c1 c2 c3 c4 c5 p0 p1 p2 p3 p4 p5 l0 l1 pl ll UY;cases CU with
   | none=>
    have Ku:=hsk.o (hq0.o rfl);replace jL:=ζ (jL.o.alloc (.cells #[.string vs,.slice vA vm vk,.int .i64 vlv,.int .u32 vc,.int .i64 vf,.int .i64 vt] 57));simp only[Option.isSome_none];go_wp2;go_roundw
    case rel=>exact⟨k+1,o,ω,ν,rfl,Ku,ζ (fun y hy=>(hoa.o y hy).grows jL.o),hT.o.grows jL.o,hB.o.grows jL.o,hL.o.grows jL.o,hZ.o.grows jL.o,hG.o.trans jL.o⟩
    case measure=>exact ψ
   | some c=>
    obtain⟨cA,ck,hce,kY⟩:=hcut;unfold iV at hce;simp only[Value.agg.injEq,Array.mk.injEq,List.cons.injEq,and_true,Value.string.injEq,Value.slice.injEq,Value.int.injEq,true_and] at hce;obtain⟨rfl,⟨rfl,rfl,rfl⟩,rfl,rfl,rfl,rfl⟩:=hce;have qQ:=ζ (jL.o.alloc (.cells #[.string ⟨c.src.toArray⟩,.slice vA c.fs.length vk,.int .i64 c.l.lv,.int .u32 (c.l.c:Int),.int .i64 c.f,.int .i64 c.t] 57));have hC1:=ζ (aG.new w1 57 #[.string ⟨c.src.toArray⟩,.slice vA c.fs.length vk,.int .i64 c.l.lv,.int .u32 (c.l.c:Int),.int .i64 c.f,.int .i64 c.t]);have GK:=ζ (BD.o.alloc (.cells #[.string ⟨c.src.toArray⟩,.slice vA c.fs.length vk,.int .i64 c.l.lv,.int .u32 (c.l.c:Int),.int .i64 c.f,.int .i64 c.t] 57));have aky:=ζ ((kY.bK (base':=w.heap.size) (by have:=hG.o.size;have:=jL.o.size;simp;omega)).alloc (.cells #[.string ⟨c.src.toArray⟩,.slice vA c.fs.length vk,.int .i64 c.l.lv,.int .u32 (c.l.c:Int),.int .i64 c.f,.int .i64 c.t] 57));simp only[Option.isSome_some] at *
    go_wp2_with fail;refine (UW.out _ (hG.o.trans qQ.o)).mono ?_;rintro e w2 ⟨rfl,hb2⟩;replace qQ:=ζ (qQ.o.trans hb2);replace hC1:=ζ (hC1.o.grows hb2);replace GK:=ζ (GK.o.grows hb2);replace aky:=ζ (aky.o.grows hb2);clear hb2 x0 x1 x2 x3 x4 x5 xz jL BD kY UW;cases AB with
    | false=>
     have Ku:=hsk.o (hq1.o c rfl rfl);go_wp2;go_roundw
     case rel=>exact⟨k+1,o,ω,ν,rfl,Ku,ζ (fun y hy=>(hoa.o y hy).grows qQ.o),hT.o.grows qQ.o,hB.o.grows qQ.o,hL.o.grows qQ.o,hZ.o.grows qQ.o,hG.o.trans qQ.o⟩
     case measure=>exact ψ
    | true=>
     have hcb:=aAX.o c (by first | rfl | trivial) (by first | rfl | trivial);obtain⟨A',c',hcv,-,-,hXa⟩:=aky.o.arr JB;simp only[Value.slice.injEq,true_and] at hcv;obtain⟨rfl,rfl⟩:=hcv;have cIx:=ζ (cI.out ⟨c,vA,c.fs.length,vk⟩ w2 hcb hXa);have y0:=hC1.o.c0;have y1:=hC1.o.c1;have y2:=hC1.o.c2;have y3:=hC1.o.c3;have y4:=hC1.o.c4;have y5:=hC1.o.c5;have yz:=hC1.o.lt;have akb:=gQ hcb;have hown:Hid (∀b,ru w2 w.heap.size ⟨⟨id,b,c.fs⟩,vA,c.fs.length,vk⟩):=ζ (fun b=>⟨aky.o,by show c.fs.length≤1000;have:=akb.2.1;omega,fun f hf=>by have:=(akb.2.2 f hf).2;omega⟩);clear hXa aky hcb akb;unfold iV at cIx;simp only at cIx;go_wp2_with fail;refine cIx.out.mono ?_;rintro e w3 ⟨rfl,hb3⟩;replace qQ:=ζ (qQ.o.trans hb3);replace hC1:=ζ (hC1.o.grows hb3);replace GK:=ζ (GK.o.grows hb3);replace hown:=ζ (fun b=>(hown.o b).grows hb3);clear hb3 y0 y1 y2 y3 y4 y5 yz cIx;by_cases arl:CV c = id
     ·have anH:((CV c:Nat):Int)=(id:Int):=ω;have ajV:=hq3.o c (by first | rfl | trivial) (by first | rfl | trivial) arl;have x0:=GK.o.c0;have x1:=GK.o.c1;have x2:=GK.o.c2;have x3:=GK.o.c3;have x4:=GK.o.c4;have x5:=GK.o.c5;have xz:=GK.o.lt;clear arl;replace ajV:=ζ ajV;go_wp2_with fail;refine (KU.out _).mono ?_;rintro e w4 ⟨rfl,hb4⟩;replace qQ:=ζ (qQ.o.trans hb4);have hC4:=hC1.o.grows hb4;replace hown:=ζ (fun b=>(hown.o b).grows hb4);have Wq:=hT.o.grows qQ.o;have aBo:=ζ Wq;have hZc:=hZ.o.grows qQ.o;have z0:=hZc.c0;have z1:=hZc.c1;have z2:=hZc.c2;have zf:=fun j=>hZc.frozen j
      have zl:=hZc.lt;have y1:=hC4.c1;have yz:=hC4.lt;obtain⟨ti,tb,tA,tm,tk,ht⟩:=TD o;rw[ht] at Wq;have t0:=Wq.c0;have t1:=Wq.c1;have t2:=Wq.c2;have tf:=fun j=>Wq.frozen j
      have tl:=Wq.lt;have rJ:=ζ (hG.o.trans qQ.o);have hZ4:=ζ (hZ.o.grows qQ.o);have WI:=ζ (hB.o.grows qQ.o);have hL4:=ζ (hL.o.grows qQ.o);have aAl:=ζ (fun y hy=>(hoa.o y hy).grows qQ.o);clear hb4 x0 x1 x2 x3 x4 x5 xz hC4 hC1 GK qQ hG hZ hB hL hoa hT KU ht;have hb0:=Wq.bH 0 (.int .u64 (id:Int));have arJ:=hb0.bH 1 (.bool FB);have hb2:=arJ.bH 2 (.slice vA c.fs.length vk);have hg2:=ah.setCell (ah.setCell (ah.setCell rJ.o (p:=⟨w.heap.size+1+1+1,0,none⟩) (by simp;omega) (.int .u64 (id:Int))) (p:=⟨w.heap.size+1+1+1,1,none⟩) (by simp;omega) (.bool FB)) (p:=⟨w.heap.size+1+1+1,2,none⟩) (by simp;omega) (.slice vA c.fs.length vk);have IU:∀y,ru w4 w.heap.size y→ru (((w4.setCell ⟨w.heap.size+1+1+1,0,none⟩ (.int .u64 (id:Int))).setCell ⟨w.heap.size+1+1+1,1,none⟩ (.bool FB)).setCell ⟨w.heap.size+1+1+1,2,none⟩ (.slice vA c.fs.length vk)) w.heap.size y:=fun y hy=>((hy.far Wq δ _).far hb0 δ _).far arJ δ _
      have arI:=hb2.cast (cs':=RN (some ⟨⟨id,FB,c.fs⟩,vA,c.fs.length,vk⟩)) (by simp[RN]);have hbB:=(((WI.o.far (p:=⟨w.heap.size+1+1+1,0,none⟩) (by simp;omega) (.int .u64 (id:Int))).far (p:=⟨w.heap.size+1+1+1,1,none⟩) (by simp;omega) (.bool FB)).far (p:=⟨w.heap.size+1+1+1,2,none⟩) (by simp;omega) (.slice vA c.fs.length vk));have hbL:=(((hL4.o.far (p:=⟨w.heap.size+1+1+1,0,none⟩) σ (.int .u64 (id:Int))).far (p:=⟨w.heap.size+1+1+1,1,none⟩) σ (.bool FB)).far (p:=⟨w.heap.size+1+1+1,2,none⟩) σ (.slice vA c.fs.length vk));have hbZ:=(((hZ4.o.far (p:=⟨w.heap.size+1+1+1,0,none⟩) σ (.int .u64 (id:Int))).far (p:=⟨w.heap.size+1+1+1,1,none⟩) σ (.bool FB)).far (p:=⟨w.heap.size+1+1+1,2,none⟩) σ (.slice vA c.fs.length vk));replace arI:=ζ arI;replace hg2:=ζ hg2;replace IU:=ζ IU;replace hbB:=ζ hbB;replace hbL:=ζ hbL;replace hbZ:=ζ hbZ;clear hb0 arJ hb2 Wq;cases FB with
      | true=>
       have hres:=ζ (JD.o c.fs ajV.o);obtain⟨n0,n1,n2⟩:=ak7 hbZ.o hg2.o ω (IU.o _ (hown.o true)) (id:Int) true vA c.fs.length vk;have e0:=n0.cell 0;have e1:=n0.cell 1;have e2:=n0.cell 2;simp only[List.getElem?_toArray,List.getElem?_cons_zero,List.getElem?_cons_succ] at e0 e1 e2;replace n1:=ζ n1;replace n2:=ζ n2;clear n0 JD hsk ZN;go_wp2;refine bodyPost_ret (v:=.tuple #[.agg (RN (some ⟨⟨id,true,c.fs⟩,vA,c.fs.length,vk⟩)),.bool true]) ?_ rfl ⟨some ⟨⟨id,true,c.fs⟩,vA,c.fs.length,vk⟩,rfl,hres.o.symm,(fun y hy=>by injection hy with hy;subst hy;exact n2.out),n1.out⟩;simp[results,Tryz.results82,go_sem,e0,e1,e2,RN]
      | false=>
       clear z0 z1 z2 zf zl;cases o with
       | none=>
        have Ku:=ZN.o c.fs ajV.o ⟨⟨id,false,c.fs⟩,vA,c.fs.length,vk⟩ rfl;simp only[Option.isSome_none,Option.getD_none] at *
        go_wp2;go_roundw
        case rel=>exact⟨k+1,some ⟨⟨id,false,c.fs⟩,vA,c.fs.length,vk⟩,ω,ν,rfl,Ku,ζ (fun y hy=>by injection hy with hy;subst hy;exact IU.o _ (hown.o false)),arI,hbB,hbL,hbZ,hg2⟩
        case measure=>exact ψ
       | some y=>
        have Ku:=ZN.o c.fs ajV.o ⟨⟨id,false,c.fs⟩,none,0,0⟩ rfl;simp only[Option.isSome_some,Option.getD_some] at *
        go_wp2;go_roundw
        case rel=>exact⟨k+1,some y,ω,ν,rfl,Ku,aAl,aBo,WI,hL4,hZ4,rJ⟩
        case measure=>exact ψ
     ·have Ku:=hsk.o (Sm.o c (by first | rfl | trivial) arl);have anH:¬((CV c:Nat):Int)=(id:Int):=ω;go_wp2;go_roundw
      case rel=>exact⟨k+1,o,ω,ν,rfl,Ku,ζ (fun y hy=>(hoa.o y hy).grows qQ.o),hT.o.grows qQ.o,hB.o.grows qQ.o,hL.o.grows qQ.o,hZ.o.grows qQ.o,hG.o.trans qQ.o⟩
      case measure=>exact ψ
  ·obtain rfl:k=lm:=ω;have hres:=ζ (hdone.o o hst.o);obtain⟨ti,tb,tA,tm,tk,ht⟩:=TD o;rw[ht] at hT;have t0:=hT.o.c0;have t1:=hT.o.c1;have t2:=hT.o.c2;have tl:=hT.o.lt;have z0:=hZ.o.c0;have z1:=hZ.o.c1;have z2:=hZ.o.c2;have zf:=fun j=>hZ.o.frozen j
   have zl:=hZ.o.lt;have hb0:=hZ.o.bH 0 (.int .u64 ti);have hb1:=hb0.bH 1 (.bool tb);have hb2:=hb1.bH 2 (.slice tA tm tk);have e0:=hb2.cell 0;have e1:=hb2.cell 1;have e2:=hb2.cell 2;have hgz:=ah.setCell (ah.setCell (ah.setCell hG.o (p:=⟨w.heap.size+1+1,0,none⟩) (by simp;omega) (.int .u64 ti)) (p:=⟨w.heap.size+1+1,1,none⟩) (by simp;omega) (.bool tb)) (p:=⟨w.heap.size+1+1,2,none⟩) (by simp;omega) (.slice tA tm tk);have hoz:∀x,o = some x→ru (((wr.setCell ⟨w.heap.size+1+1,0,none⟩ (.int .u64 ti)).setCell ⟨w.heap.size+1+1,1,none⟩ (.bool tb)).setCell ⟨w.heap.size+1+1,2,none⟩ (.slice tA tm tk)) w.heap.size x:=fun x hx=>(((hoa.o x hx).far hZ.o δ _).far hb0 δ _).far hb1 δ _
   simp at e0 e1 e2;replace hgz:=ζ hgz;replace hoz:=ζ hoz;clear hb0 hb1 hb2;go_wp2;refine bodyPost_ret (v:=.tuple #[.agg (RN o),.bool o.isSome]) ?_ rfl ⟨o,rfl,hres.o.symm,hoz.o,hgz.o⟩;rw[ht];simp[results,Tryz.results82,go_sem,e0,e1,e2]
end Go.Proofs.YtbhikkgpcmkonaaGreatDoor
