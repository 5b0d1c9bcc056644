/- Parts: ShaB ShaA ShaC ShaD ShaE ShaF ShaG -/
import Derived.Test.YteojanlajhebhaaGreatDoorGs0
import Derived.Test.YteojanlajhebhaaGreatDoorGs1
import Derived.Deep.WholeRow
import Derived.Laws.Bits64b
set_option maxRecDepth 100000
set_option maxHeartbeats 12800000
namespace Go.Proofs.YteojanlajhebhaaGreatDoor
open Go.RowKit
theorem wrap32 (n:Nat):IntKind.u32.wrap (n:Int)=((n % 4294967296:Nat):Int):=by
 rw[IntKind.wrap_u32,Int.natCast_emod];rfl
theorem ofInt32 {a:Nat} (ha:Wd a):(BitVec.ofInt 32 (a:Int)).toNat=a:=by
 rw[BitVec.ofInt_natCast,BitVec.toNat_ofNat];exact Nat.mod_eq_of_lt ha.lt
theorem rF {a b:Nat} (ha:Wd a) (hb:Wd b):bits .xor .u32 (a:Int) (b:Int)=((a ^^^ b:Nat):Int):=by
 have hx:=(DJ ha hb).lt;show IntKind.u32.wrap ((BitVec.ofInt 32 (a:Int) ^^^ BitVec.ofInt 32 (b:Int)).toNat:Int)=_
 rw[BitVec.toNat_xor,ofInt32 ha,ofInt32 hb,wrap32,Nat.mod_eq_of_lt hx]
theorem aml {a b:Nat} (ha:Wd a) (hb:Wd b):bits .or .u32 (a:Int) (b:Int)=((a |||b:Nat):Int):=by
 have hx:a |||b < 4294967296:=Nat.or_lt_two_pow (n:=32) ha.lt hb.lt
 show IntKind.u32.wrap ((BitVec.ofInt 32 (a:Int) |||BitVec.ofInt 32 (b:Int)).toNat:Int)=_
 rw[BitVec.toNat_or,ofInt32 ha,ofInt32 hb,wrap32,Nat.mod_eq_of_lt hx]
theorem rV {x:Nat} (hx:Wd x) {n:Nat}:bits .or .u32 (IntKind.u32.wrap ((x:Int)*((2 ^ (32-n):Nat):Int))) ((x:Int) / ((2 ^ n:Nat):Int))=((bY x n:Nat):Int):=by
 have e1:IntKind.u32.wrap ((x:Int)*((2 ^ (32-n):Nat):Int))=(((x <<< (32-n)) % 4294967296:Nat):Int):=by
  rw[←Int.natCast_mul,wrap32,Nat.shiftLeft_eq]
 have e2:(x:Int) / ((2 ^ n:Nat):Int)=((x >>> n:Nat):Int):=by
  rw[←Int.natCast_ediv,Nat.shiftRight_eq_div_pow]
 rw[e1,e2,aml (Wd.mod _) (Wd.of (Nat.lt_of_le_of_lt (Nat.shiftRight_le _ _) hx.lt))];rfl
def dJ (xs:List Nat):Array Value:=(xs.map fun (x:Nat)=>Value.int .u32 (x:Int)).toArray
theorem tC (xs:List Nat):(dJ xs).size=xs.length:=by simp[dJ]
theorem oq {xs:List Nat} {i:Nat} (h:i < xs.length):(dJ xs)[i]? = some (.int .u32 ((xs.getD i 0:Nat):Int)):=by
 simp[dJ,h]
theorem uz (xs:List Nat) (i x:Nat):(dJ xs).setIfInBounds i (.int .u32 (x:Int))=dJ (xs.set i x):=by
 simp[dJ,List.map_set]
theorem afN {x:Nat} (hx:Wd x):bits .or .u32 (IntKind.u32.wrap ((x:Int)*1073741824)) ((x:Int) / 4)=((bY x 2:Nat):Int):=rV hx (n:=2)
theorem afQ {x:Nat} (hx:Wd x) (w:World) :
 Calls Tryz.prog 163 #[.int .u32 (x:Int),.int .i64 (-2)] w fun e w'=>e =.returned (.int .u32 ((bY x 2:Nat):Int))∧w'=w:=by
 have h:=afN hx;have hs:bits .and .u64 (IntKind.u64.wrap (-2)) 31=30:=δ;clear hx;generalize bY x 2=R at *
 go_enter Tryz.func163,Tryz.ntmps163
 go_wp2;go_ret;exact⟨wF h,rfl⟩
theorem afM {x:Nat} (hx:Wd x):bits .or .u32 (IntKind.u32.wrap ((x:Int)*67108864)) ((x:Int) / 64)=((bY x 6:Nat):Int):=rV hx (n:=6)
theorem afP {x:Nat} (hx:Wd x) (w:World) :
 Calls Tryz.prog 163 #[.int .u32 (x:Int),.int .i64 (-6)] w fun e w'=>e =.returned (.int .u32 ((bY x 6:Nat):Int))∧w'=w:=by
 have h:=afM hx;have hs:bits .and .u64 (IntKind.u64.wrap (-6)) 31=26:=δ;clear hx;generalize bY x 6=R at *
 go_enter Tryz.func163,Tryz.ntmps163
 go_wp2;go_ret;exact⟨wF h,rfl⟩
theorem afL {x:Nat} (hx:Wd x):bits .or .u32 (IntKind.u32.wrap ((x:Int)*33554432)) ((x:Int) / 128)=((bY x 7:Nat):Int):=rV hx (n:=7)
theorem afO {x:Nat} (hx:Wd x) (w:World) :
 Calls Tryz.prog 163 #[.int .u32 (x:Int),.int .i64 (-7)] w fun e w'=>e =.returned (.int .u32 ((bY x 7:Nat):Int))∧w'=w:=by
 have h:=afL hx;have hs:bits .and .u64 (IntKind.u64.wrap (-7)) 31=25:=δ;clear hx;generalize bY x 7=R at *
 go_enter Tryz.func163,Tryz.ntmps163
 go_wp2;go_ret;exact⟨wF h,rfl⟩
theorem ab8 {x:Nat} (hx:Wd x):bits .or .u32 (IntKind.u32.wrap ((x:Int)*2097152)) ((x:Int) / 2048)=((bY x 11:Nat):Int):=rV hx (n:=11)
theorem ach {x:Nat} (hx:Wd x) (w:World) :
 Calls Tryz.prog 163 #[.int .u32 (x:Int),.int .i64 (-11)] w fun e w'=>e =.returned (.int .u32 ((bY x 11:Nat):Int))∧w'=w:=by
 have h:=ab8 hx;have hs:bits .and .u64 (IntKind.u64.wrap (-11)) 31=21:=δ;clear hx;generalize bY x 11=R at *
 go_enter Tryz.func163,Tryz.ntmps163
 go_wp2;go_ret;exact⟨wF h,rfl⟩
theorem ab7 {x:Nat} (hx:Wd x):bits .or .u32 (IntKind.u32.wrap ((x:Int)*524288)) ((x:Int) / 8192)=((bY x 13:Nat):Int):=rV hx (n:=13)
theorem acg {x:Nat} (hx:Wd x) (w:World) :
 Calls Tryz.prog 163 #[.int .u32 (x:Int),.int .i64 (-13)] w fun e w'=>e =.returned (.int .u32 ((bY x 13:Nat):Int))∧w'=w:=by
 have h:=ab7 hx;have hs:bits .and .u64 (IntKind.u64.wrap (-13)) 31=19:=δ;clear hx;generalize bY x 13=R at *
 go_enter Tryz.func163,Tryz.ntmps163
 go_wp2;go_ret;exact⟨wF h,rfl⟩
theorem ab6 {x:Nat} (hx:Wd x):bits .or .u32 (IntKind.u32.wrap ((x:Int)*32768)) ((x:Int) / 131072)=((bY x 17:Nat):Int):=rV hx (n:=17)
theorem acf {x:Nat} (hx:Wd x) (w:World) :
 Calls Tryz.prog 163 #[.int .u32 (x:Int),.int .i64 (-17)] w fun e w'=>e =.returned (.int .u32 ((bY x 17:Nat):Int))∧w'=w:=by
 have h:=ab6 hx;have hs:bits .and .u64 (IntKind.u64.wrap (-17)) 31=15:=δ;clear hx;generalize bY x 17=R at *
 go_enter Tryz.func163,Tryz.ntmps163
 go_wp2;go_ret;exact⟨wF h,rfl⟩
theorem ab5 {x:Nat} (hx:Wd x):bits .or .u32 (IntKind.u32.wrap ((x:Int)*16384)) ((x:Int) / 262144)=((bY x 18:Nat):Int):=rV hx (n:=18)
theorem ace {x:Nat} (hx:Wd x) (w:World) :
 Calls Tryz.prog 163 #[.int .u32 (x:Int),.int .i64 (-18)] w fun e w'=>e =.returned (.int .u32 ((bY x 18:Nat):Int))∧w'=w:=by
 have h:=ab5 hx;have hs:bits .and .u64 (IntKind.u64.wrap (-18)) 31=14:=δ;clear hx;generalize bY x 18=R at *
 go_enter Tryz.func163,Tryz.ntmps163
 go_wp2;go_ret;exact⟨wF h,rfl⟩
theorem ab4 {x:Nat} (hx:Wd x):bits .or .u32 (IntKind.u32.wrap ((x:Int)*8192)) ((x:Int) / 524288)=((bY x 19:Nat):Int):=rV hx (n:=19)
theorem acd {x:Nat} (hx:Wd x) (w:World) :
 Calls Tryz.prog 163 #[.int .u32 (x:Int),.int .i64 (-19)] w fun e w'=>e =.returned (.int .u32 ((bY x 19:Nat):Int))∧w'=w:=by
 have h:=ab4 hx;have hs:bits .and .u64 (IntKind.u64.wrap (-19)) 31=13:=δ;clear hx;generalize bY x 19=R at *
 go_enter Tryz.func163,Tryz.ntmps163
 go_wp2;go_ret;exact⟨wF h,rfl⟩
theorem ab3 {x:Nat} (hx:Wd x):bits .or .u32 (IntKind.u32.wrap ((x:Int)*1024)) ((x:Int) / 4194304)=((bY x 22:Nat):Int):=rV hx (n:=22)
theorem ab_ {x:Nat} (hx:Wd x) (w:World) :
 Calls Tryz.prog 163 #[.int .u32 (x:Int),.int .i64 (-22)] w fun e w'=>e =.returned (.int .u32 ((bY x 22:Nat):Int))∧w'=w:=by
 have h:=ab3 hx;have hs:bits .and .u64 (IntKind.u64.wrap (-22)) 31=10:=δ;clear hx;generalize bY x 22=R at *
 go_enter Tryz.func163,Tryz.ntmps163
 go_wp2;go_ret;exact⟨wF h,rfl⟩
theorem ab2 {x:Nat} (hx:Wd x):bits .or .u32 (IntKind.u32.wrap ((x:Int)*128)) ((x:Int) / 33554432)=((bY x 25:Nat):Int):=rV hx (n:=25)
theorem ab9 {x:Nat} (hx:Wd x) (w:World) :
 Calls Tryz.prog 163 #[.int .u32 (x:Int),.int .i64 (-25)] w fun e w'=>e =.returned (.int .u32 ((bY x 25:Nat):Int))∧w'=w:=by
 have h:=ab2 hx;have hs:bits .and .u64 (IntKind.u64.wrap (-25)) 31=7:=δ;clear hx;generalize bY x 25=R at *
 go_enter Tryz.func163,Tryz.ntmps163
 go_wp2;go_ret;exact⟨wF h,rfl⟩
theorem acS {x:Nat} (hx:Wd x) (w:World) :
 Calls Tryz.prog 150 #[.agg #[.int .i64 7,.int .i64 18,.int .i64 0,.int .i64 3],.int .u32 (x:Int)] w fun e w'=>e =.returned (.int .u32 ((LV 7 18 3 x:Nat):Int))∧ah w w':=by
 have h1:bits .xor .u32 ((bY x 7:Nat):Int) ((bY x 18:Nat):Int)=((bY x 7 ^^^ bY x 18:Nat):Int):=rF (dY hx) (dY hx);have h2:bits .xor .u32 ((bY x 7 ^^^ bY x 18:Nat):Int) ((x:Int) / 8)=((LV 7 18 3 x:Nat):Int):=by
  have e:(x:Int) / (8:Int)=((x >>> 3:Nat):Int):=by
   rw[Nat.shiftRight_eq_div_pow];exact (Int.natCast_ediv x (2 ^ 3)).symm
  rw[e];exact rF (DJ (dY hx) (dY hx)) (Wd.of (Nat.lt_of_le_of_lt (Nat.shiftRight_le _ _) hx.lt))
 have cA:=fun W=>afO hx W
 have cB:=fun W=>ace hx W
 clear hx;generalize LV 7 18 3 x = V at *
 generalize bY x 7 ^^^ bY x 18=U at *
 generalize bY x 7=R1 at *
 generalize bY x 18=R2 at *
 replace cA:=ζ cA;replace cB:=ζ cB;go_enter Tryz.func150,Tryz.ntmps150
 go_wp2_with fail;refine bV (μ [0,1,2,3,5,6,7,8,4,9,10,11] [4,9]) κ κ rfl κ π ?_;iterate 8 refine dX ?_
 refine iw rfl (fun K' hK=> ?_);go_simp;refine (cA.out _).mono ?_;rintro e w1 ⟨rfl,rfl⟩;refine hK.o _ _ ?_ (fun hS=> ?_)
 ·exact γ
 clear hK hS;refine iw rfl (fun K' hK=> ?_);go_simp;refine (cB.out _).mono ?_;rintro e w2 ⟨rfl,rfl⟩;refine hK.o _ _ ?_ (fun hS=> ?_)
 ·exact γ
 clear hK hS;iterate 2 refine dX ?_
 refine gK ?_;go_wp2;go_ret;exact⟨rfl,by
  exact γ
 ⟩
theorem Zy {x:Nat} (hx:Wd x) (w:World) :
 Calls Tryz.prog 150 #[.agg #[.int .i64 17,.int .i64 19,.int .i64 0,.int .i64 10],.int .u32 (x:Int)] w fun e w'=>e =.returned (.int .u32 ((LV 17 19 10 x:Nat):Int))∧ah w w':=by
 have h1:bits .xor .u32 ((bY x 17:Nat):Int) ((bY x 19:Nat):Int)=((bY x 17 ^^^ bY x 19:Nat):Int):=rF (dY hx) (dY hx);have h2:bits .xor .u32 ((bY x 17 ^^^ bY x 19:Nat):Int) ((x:Int) / 1024)=((LV 17 19 10 x:Nat):Int):=by
  have e:(x:Int) / (1024:Int)=((x >>> 10:Nat):Int):=by
   rw[Nat.shiftRight_eq_div_pow];exact (Int.natCast_ediv x (2 ^ 10)).symm
  rw[e];exact rF (DJ (dY hx) (dY hx)) (Wd.of (Nat.lt_of_le_of_lt (Nat.shiftRight_le _ _) hx.lt))
 have cA:=fun W=>acf hx W
 have cB:=fun W=>acd hx W
 clear hx;generalize LV 17 19 10 x = V at *
 generalize bY x 17 ^^^ bY x 19=U at *
 generalize bY x 17=R1 at *
 generalize bY x 19=R2 at *
 replace cA:=ζ cA;replace cB:=ζ cB;go_enter Tryz.func150,Tryz.ntmps150
 go_wp2_with fail;refine bV (μ [0,1,2,3,5,6,7,8,4,9,10,11] [4,9]) κ κ rfl κ π ?_;iterate 8 refine dX ?_
 refine iw rfl (fun K' hK=> ?_);go_simp;refine (cA.out _).mono ?_;rintro e w1 ⟨rfl,rfl⟩;refine hK.o _ _ ?_ (fun hS=> ?_)
 ·exact γ
 clear hK hS;refine iw rfl (fun K' hK=> ?_);go_simp;refine (cB.out _).mono ?_;rintro e w2 ⟨rfl,rfl⟩;refine hK.o _ _ ?_ (fun hS=> ?_)
 ·exact γ
 clear hK hS;iterate 2 refine dX ?_
 refine gK ?_;go_wp2;go_ret;exact⟨rfl,by
  exact γ
 ⟩
theorem acU {x:Nat} (hx:Wd x) (w:World) :
 Calls Tryz.prog 150 #[.agg #[.int .i64 6,.int .i64 11,.int .i64 25,.int .i64 0],.int .u32 (x:Int)] w fun e w'=>e =.returned (.int .u32 ((sig 6 11 25 x:Nat):Int))∧ah w w':=by
 have h1:bits .xor .u32 ((bY x 6:Nat):Int) ((bY x 11:Nat):Int)=((bY x 6 ^^^ bY x 11:Nat):Int):=rF (dY hx) (dY hx);have h2:bits .xor .u32 ((bY x 6 ^^^ bY x 11:Nat):Int) ((bY x 25:Nat):Int)=((sig 6 11 25 x:Nat):Int):=rF (DJ (dY hx) (dY hx)) (dY hx);have cA:=fun W=>afP hx W
 have cB:=fun W=>ach hx W
 have cC:=fun W=>ab9 hx W
 clear hx;generalize sig 6 11 25 x = V at *
 generalize bY x 6 ^^^ bY x 11=U at *
 generalize bY x 6=R1 at *
 generalize bY x 11=R2 at *
 generalize bY x 25=R3 at *
 replace cA:=ζ cA;replace cB:=ζ cB;replace cC:=ζ cC;go_enter Tryz.func150,Tryz.ntmps150
 go_wp2_with fail;refine bV (μ [0,1,2,3,5,6,7,8,4,9,10,11] [4,9]) κ κ rfl κ π ?_;iterate 8 refine dX ?_
 refine iw rfl (fun K' hK=> ?_);go_simp;refine (cA.out _).mono ?_;rintro e w1 ⟨rfl,rfl⟩;refine hK.o _ _ ?_ (fun hS=> ?_)
 ·exact γ
 clear hK hS;refine iw rfl (fun K' hK=> ?_);go_simp;refine (cB.out _).mono ?_;rintro e w2 ⟨rfl,rfl⟩;refine hK.o _ _ ?_ (fun hS=> ?_)
 ·exact γ
 clear hK hS;iterate 2 refine dX ?_
 refine gK ?_;go_wp2_with fail;refine (cC.out _).mono ?_;rintro e w3 ⟨rfl,rfl⟩;go_wp2;go_ret;exact⟨rfl,by
  exact γ
 ⟩
theorem Xg {x:Nat} (hx:Wd x) (w:World) :
 Calls Tryz.prog 150 #[.agg #[.int .i64 2,.int .i64 13,.int .i64 22,.int .i64 0],.int .u32 (x:Int)] w fun e w'=>e =.returned (.int .u32 ((sig 2 13 22 x:Nat):Int))∧ah w w':=by
 have h1:bits .xor .u32 ((bY x 2:Nat):Int) ((bY x 13:Nat):Int)=((bY x 2 ^^^ bY x 13:Nat):Int):=rF (dY hx) (dY hx);have h2:bits .xor .u32 ((bY x 2 ^^^ bY x 13:Nat):Int) ((bY x 22:Nat):Int)=((sig 2 13 22 x:Nat):Int):=rF (DJ (dY hx) (dY hx)) (dY hx);have cA:=fun W=>afQ hx W
 have cB:=fun W=>acg hx W
 have cC:=fun W=>ab_ hx W
 clear hx;generalize sig 2 13 22 x = V at *
 generalize bY x 2 ^^^ bY x 13=U at *
 generalize bY x 2=R1 at *
 generalize bY x 13=R2 at *
 generalize bY x 22=R3 at *
 replace cA:=ζ cA;replace cB:=ζ cB;replace cC:=ζ cC;go_enter Tryz.func150,Tryz.ntmps150
 go_wp2_with fail;refine bV (μ [0,1,2,3,5,6,7,8,4,9,10,11] [4,9]) κ κ rfl κ π ?_;iterate 8 refine dX ?_
 refine iw rfl (fun K' hK=> ?_);go_simp;refine (cA.out _).mono ?_;rintro e w1 ⟨rfl,rfl⟩;refine hK.o _ _ ?_ (fun hS=> ?_)
 ·exact γ
 clear hK hS;refine iw rfl (fun K' hK=> ?_);go_simp;refine (cB.out _).mono ?_;rintro e w2 ⟨rfl,rfl⟩;refine hK.o _ _ ?_ (fun hS=> ?_)
 ·exact γ
 clear hK hS;iterate 2 refine dX ?_
 refine gK ?_;go_wp2_with fail;refine (cC.out _).mono ?_;rintro e w3 ⟨rfl,rfl⟩;go_wp2;go_ret;exact⟨rfl,by
  exact γ
 ⟩
theorem abI {x:Nat} (hx:Wd x):(x:Int) / 2+(x:Int) % 2*2147483648=((IC x:Nat):Int)∧0≤(x:Int)∧(x:Int)≤4294967295:=by
 have h:=hx.lt;unfold IC;omega
theorem jS {x:Nat} (n:Nat) (hx:Wd x) (hn:n < 32) (w:World) :
 Calls Tryz.prog 132 #[.int .u32 (x:Int),.int .i64 (n:Int)] w fun e w'=>e =.returned (.int .u32 ((bY x n:Nat):Int))∧ah w w':=by
 rw[←abH hx hn];replace hx:=ζ hx;go_enter Tryz.func132,Tryz.ntmps132
 go_wp2_with fail;go_loopw [0,5] (fun X i wr=>∃k:Nat,k≤n∧i =.int .i64 k∧X=.int .u32 ((OJ k x:Nat):Int)∧ah w wr) (fun _ i _=>n - (intOf i).toNat)
 case atStart=>exact⟨0,ω,rfl,by rw[QZ],ah.refl _⟩
 case round=>
  obtain⟨k,hk,rfl,rfl,hgr⟩:=hrel;by_cases hlt:k<n
  ·have hy:=Q7 k x hx.o;have hs:=Q5 k x;generalize OJ k x = y at *
   obtain⟨h1,h2,h3⟩:=abI hy;replace hs:=ζ hs;clear hy;go_wp2;go_roundw
   case rel=>exact⟨k+1,ω,ν,by
    rw[hs.o,←h1]
   ,hgr⟩
   case measure=>exact ψ
  ·obtain rfl:k=n:=ω;go_wp2;go_ret;exact⟨rfl,hgr⟩
def Kw:List Nat:=[iJ.a,iJ.b,iJ.c,iJ.d,iJ.e,iJ.f,iJ.g,iJ.h]
theorem afu (w:World):Calls Tryz.prog 133 #[] w fun e w'=>e =.returned (.agg (dJ Kw))∧ah w w':=by
 go_enter Tryz.func133,Tryz.ntmps133
 go_wp2;refine bodyPost_ret (v:=.agg (dJ Kw)) ?_ rfl ⟨rfl,?_⟩
 ·simp[results,Tryz.results133,go_sem];rfl
 ·exact γ
theorem W9 (w:World):Calls Tryz.prog 110 #[] w fun e w'=>e =.returned (.agg (dJ Kw))∧ah w w':=by
 go_enter Tryz.func110,Tryz.ntmps110
 go_wp2;refine bodyPost_ret (v:=.agg (dJ Kw)) ?_ rfl ⟨rfl,?_⟩
 ·simp[results,Tryz.results110,go_sem];rfl
 ·exact γ
theorem ajD (w:World):Calls Tryz.prog 151 #[] w fun e w'=>e =.returned (.agg (dJ jh))∧ah w w':=by
 go_enter Tryz.func151,Tryz.ntmps151
 iterate 9 go_step
 go_step
 go_step
 refine wpList_build rfl 159 _ rfl κ ?_;refine wpList_store_row rfl 159 (.tmp 0) (.tmp 1) rfl w.heap.size (dJ jh) rfl κ 159 _ (aS.new w _ _) κ rfl κ ?_;rw[World.setRow_alloc_new];generalize Program.built _ _ _ = built;go_wp2;refine bodyPost_ret (v:=.agg (dJ jh)) (results_cell_row (p:=0) (ty:=159) κ _ _ w.heap.size _ (dJ jh) (0,0) _ rfl (heap_alloc_new w _) Tryz.underlying159 rfl κ) rfl ⟨rfl,?_⟩;exact γ
theorem Y_ (w:World):Calls Tryz.prog 111 #[] w fun e w'=>e =.returned (.agg (dJ jh))∧ah w w':=by
 go_enter Tryz.func111,Tryz.ntmps111
 iterate 9 go_step
 go_step
 go_step
 refine wpList_build rfl 159 _ rfl κ ?_;refine wpList_store_row rfl 159 (.tmp 0) (.tmp 1) rfl w.heap.size (dJ jh) rfl κ 159 _ (aS.new w _ _) κ rfl κ ?_;rw[World.setRow_alloc_new];generalize Program.built _ _ _ = built;go_wp2;refine bodyPost_ret (v:=.agg (dJ jh)) (results_cell_row (p:=0) (ty:=159) κ _ _ w.heap.size _ (dJ jh) (0,0) _ rfl (heap_alloc_new w _) Tryz.underlying159 rfl κ) rfl ⟨rfl,?_⟩;exact γ
end Go.Proofs.YteojanlajhebhaaGreatDoor
namespace Go.Proofs.YteojanlajhebhaaGreatDoor
def kV (l:List Nat):List Nat:=l ++List.replicate (64-l.length) 0
theorem qL {l:List Nat} (h:l.length≤64):(kV l).length=64:=by
 unfold kV;rw[List.length_append,List.length_replicate];omega
theorem RD {l:List Nat} (h:l.length=64):kV l = l:=by unfold kV;rw[h];simp
theorem Zo {l:List Nat} {i:Nat} (h:i < l.length):(kV l).getD i 0=l.getD i 0:=by
 unfold kV;simp only[List.getD_eq_getElem?_getD,List.getElem?_append_left h]
theorem Gn {l:List Nat} (h:l.length<64):(kV l).getD l.length 0=0:=by
 unfold kV;rw[List.getD_eq_getElem?_getD,List.getElem?_append_right (Nat.le_refl _),Nat.sub_self,List.getElem?_replicate_of_lt ω];rfl
theorem Js {l:List Nat} (x:Nat) (h:l.length<64):(kV l).set l.length x = kV (l ++[x]):=by
 unfold kV;rw[List.set_append_right _ _ (Nat.le_refl _),Nat.sub_self,List.append_assoc];congr 1
 rw[show 64-l.length=(64-(l ++[x]).length)+1 by rw[List.length_append];simp;omega,List.replicate_succ];rfl
def YE (b:List Nat) (i:Nat):Nat→Nat
 | 0=>0
 | j + 1=>YE b i j * 256+b.getD (4*i + j) 0
theorem TL (b:List Nat) (i:Nat):YE b i 0=0:=rfl
theorem FY (b:List Nat) (i j:Nat):YE b i (j + 1)=YE b i j * 256+b.getD (4*i + j) 0:=rfl
theorem aau (b:List Nat) (i:Nat):YE b i 4=be4 b i:=by
 rw[FY,FY,FY,FY,TL,Nat.add_zero];unfold be4;omega
theorem ag4 {b:List Nat} (hb:∀x∈b,x < 256) (i:Nat):b.getD i 0<256:=by
 rw[List.getD_eq_getElem?_getD];cases h:b[i]? with
 | none=>simp
 | some x=>exact hb x (List.mem_of_getElem? h)
theorem ali {b:List Nat} (hb:∀x∈b,x < 256) (i j:Nat):YE b i j < 256 ^ j:=by
 induction j with
 | zero=>simp[TL]
 | succ j ih=>
  have:=ag4 hb (4*i + j);rw[FY,Nat.pow_succ];omega
theorem ap4 {b:List Nat} (hb:∀x∈b,x < 256) (i:Nat):Wd (be4 b i):=by
 have:=ali hb i 4;rw[aau] at this;exact this
theorem mO (b:List Nat):(bK b).length=16:=by simp[bK]
theorem ahb (b:List Nat) {i:Nat} (h:i < 16):(bK b)[i]? = some (be4 b i):=by
 simp[bK,h]
theorem aha {b:List Nat} (hb:∀x∈b,x < 256):∀x∈bK b,Wd x:=by
 intro x hx;simp only[bK,List.mem_map] at hx;obtain⟨i,_,rfl⟩:=hx;exact ap4 hb i
theorem Po (b:List Nat) {i:Nat} (h:i < 16):(bK b).take (i + 1)=(bK b).take i ++[be4 b i]:=by
 rw[List.take_add_one,ahb b h];rfl
theorem take_len {b:List Nat} {i:Nat} (h:i≤16):((bK b).take i).length=i:=by
 rw[List.length_take,mO];omega
theorem QN {n:Nat} {b:List Nat}:rQ (words n (bK b)) =
 QO ((words n (bK b)).getD n 0) ((words n (bK b)).getD (n + 1) 0) ((words n (bK b)).getD (n + 9) 0) ((words n (bK b)).getD (n + 14) 0):=by
 unfold rQ;rw[tu,mO,show 16+n - 16=n by omega,show 16+n - 15=n + 1 by omega,show 16+n - 7=n + 9 by omega,show 16+n - 2=n + 14 by omega]
theorem YK {b:List Nat} (hb:∀x∈b,x < 256) (n i:Nat):Wd ((words n (bK b)).getD i 0):=by
 rw[List.getD_eq_getElem?_getD];cases h:(words n (bK b))[i]? with
 | none=>exact Wd.of σ
 | some x=>exact ah7 n (aha hb) x (List.mem_of_getElem? h)
end Go.Proofs.YteojanlajhebhaaGreatDoor
namespace Go.Proofs.YteojanlajhebhaaGreatDoor
open Go.RowKit
def yH (v:List Nat) (rest:Value) (count:Int):Array Value:=dJ v ++ #[rest,.int .i64 count]
theorem acM (w:World):Calls Tryz.prog 113 #[] w fun e w'=>∃g,e =.returned (.pointer (some ⟨g,0,none⟩))∧w.heap.size≤g∧aS w' g 183 (yH Kw (.slice none 0 0) 0)∧ah w w':=by
 have cS:=fun W=>afu W
 replace cS:=ζ cS;go_enter Tryz.func113,Tryz.ntmps113
 go_wp2_with fail;refine (cS.out _).mono ?_;rintro e w1 ⟨rfl,hb1⟩;rw[show dJ Kw= #[.int .u32 1779033703,.int .u32 3144134277,.int .u32 1013904242,.int .u32 2773480762,.int .u32 1359893119,.int .u32 2600822924,.int .u32 528734635,.int .u32 1541459225] from rfl];go_wp2;go_ret;exact⟨_,rfl,hb1.size,aS.new w1 _ _,hb1.alloc _⟩
end Go.Proofs.YteojanlajhebhaaGreatDoor
namespace Go.Proofs.YteojanlajhebhaaGreatDoor
def iG (bs:List Nat):Nat→Nat
 | 0=>0
 | n + 1=>iG bs n * 256+bs.getD n 0
theorem WU (bs:List Nat):iG bs 0=0:=rfl
theorem yI (bs:List Nat) (n:Nat):iG bs (n + 1)=iG bs n * 256+bs.getD n 0:=rfl
theorem G6 {b:List Nat} (hb:∀x∈b,x < 256) (i:Nat):b.getD i 0<256:=by
 rw[List.getD_eq_getElem?_getD];cases h:b[i]? with
 | none=>simp
 | some x=>exact hb x (List.mem_of_getElem? h)
theorem Ky {bs:List Nat} (hb:∀x∈bs,x < 256) (n:Nat):iG bs n < 256 ^ n:=by
 induction n with
 | zero=>simp[WU]
 | succ n ih=>
  have:=G6 hb n;rw[yI,Nat.pow_succ];omega
theorem amk {n c:Nat} (hc:c < 256):n * 256 |||c = n * 256+c:=by
 have:=Nat.shiftLeft_add_eq_or_of_lt (i:=8) (b:=c) hc n;rw[Nat.shiftLeft_eq] at this;exact this.symm
theorem af_ {n c:Nat} (hn:n * 256+c < 18446744073709551616) (hc:c < 256):bits .or .u64 (IntKind.u64.wrap ((n:Int)*256)) (c:Int)=((n * 256+c:Nat):Int):=by
 have e:IntKind.u64.wrap ((n:Int)*256)=((n * 256:Nat):Int):=by
  rw[IntKind.wrap_u64];omega
 have ha:=Nat.lt_of_le_of_lt (Nat.le_add_right (n * 256) c) hn;have hb:=Nat.lt_of_le_of_lt (Nat.le_add_left c (n * 256)) hn;rw[e];exact (bits_or_u64_nat (n * 256) c ha hb).trans (by rw[amk hc])
end Go.Proofs.YteojanlajhebhaaGreatDoor
namespace Go.Proofs.YteojanlajhebhaaGreatDoor
open Go.RowKit
def qY (xs:List Nat):Array Value:=(xs.map fun (x:Nat)=>Value.int .u8 (x:Int)).toArray
theorem oL (xs:List Nat):(qY xs).size=xs.length:=by simp[qY]
theorem QW {xs:List Nat} {i:Nat} (h:i < xs.length):(qY xs)[i]? = some (.int .u8 ((xs.getD i 0:Nat):Int)):=by simp[qY,h]
theorem Jk (xs:List Nat):(qY xs).all (·.oneCell')=true:=by simp[qY,Value.oneCell']
theorem ai7 {A:Option Addr} {m c:Nat} {bs:List Nat} (w:World) (XR:Calls Tryz.prog 79 #[.slice A m c] w fun e w'=>e =.returned (.agg (qY bs))∧ah w w') (hl:bs.length=32) (hb:∀x∈bs,x < 256) :
 Calls Tryz.prog 40 #[.slice A m c] w fun e w'=>e =.returned (.int .u64 ((iG bs 8:Nat):Int))∧ah w w':=by
 replace XR:=ζ XR;go_enter Tryz.func40,Tryz.ntmps40
 go_wp2_with fail;refine XR.out.mono ?_;rintro e w1 ⟨rfl,hb1⟩;go_wp2_with (refine wpList_store_row rfl 130 (.tmp 4) (.tmp 8) rfl w1.heap.size (qY bs) rfl rfl 130 _ (aS.new w1 _ _) (by rw[oL,hl];kernel_rfl) (by rw[oL,hl];rfl) (Jk bs) ?_);rw[World.setRow_alloc_new];have hB:aS (w1.alloc (.cells (qY bs) 130)) w1.heap.size 130 (qY bs):=aS.new w1 _ _;have hgr:ah w (w1.alloc (.cells (qY bs) 130)):=hb1.alloc _;have hw1:=hB.lt;generalize w1.alloc (.cells (qY bs) 130)=w2 at *
 generalize w1.heap.size=g at *
 clear hb1 XR;have hc:∀i,i < 8→w2.cell? ⟨g,i,none⟩=some (.int .u8 ((bs.getD i 0:Nat):Int)):=fun i hi=>(hB.cell i).trans (QW ω)
 replace hc:=ζ hc;replace hB:=ζ hB;go_loopw [3,11] (fun n i wr=>∃k:Nat,k≤8∧i =.int .i64 k∧n =.int .u64 ((iG bs k:Nat):Int)∧wr=w2) (fun _ i _=>8-(intOf i).toNat)
 case atStart=>exact⟨0,ω,rfl,rfl,rfl⟩
 case round=>
  obtain⟨k,hk,rfl,rfl,rfl⟩:=hrel;by_cases hlt:k<8
  ·have c0:=hc.o k hlt;have hx:=G6 hb k;have hs:=yI bs k;have hn:iG bs k*256+bs.getD k 0<18446744073709551616:=by
    have h1:=Ky hb (k+1);rw[hs] at h1;exact Nat.lt_of_lt_of_le h1 (Nat.le_trans (Nat.pow_le_pow_right (n:=256) δ (by omega:k+1≤8)) δ)
   have ho:=af_ hn hx;replace hs:=ζ hs;generalize bs.getD k 0=x at *
   generalize iG bs k=n at *
   clear hn;go_wp2;go_roundw
   case rel=>exact⟨k+1,ω,ν,by rw[hs.o,Int.natCast_add,Int.natCast_mul];rfl,trivial⟩
   case measure=>exact ψ
  ·obtain rfl:k=8:=ω;go_wp2;go_ret;exact⟨rfl,hgr⟩
end Go.Proofs.YteojanlajhebhaaGreatDoor
