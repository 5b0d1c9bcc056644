/- Parts: ShaB ShaA ShaC ShaD ShaE ShaF ShaG -/
import Derived.Test.YtbhikkgpcmkonaaGreatDoorVa0
import Derived.Test.YtbhikkgpcmkonaaGreatDoorVa1
import Derived.Deep.WholeRow
import Derived.Laws.Bits64b
set_option maxRecDepth 100000
set_option maxHeartbeats 12800000
namespace Go.Proofs.YtbhikkgpcmkonaaGreatDoor
open Go.RowKit
theorem wrap32 (n:Nat):IntKind.u32.wrap (n:Int)=((n % 4294967296:Nat):Int):=by
 rw[IntKind.wrap_u32,Int.natCast_emod];rfl
theorem ofInt32 {a:Nat} (ha:Wd a):(BitVec.ofInt 32 (a:Int)).toNat=a:=by
 rw[BitVec.ofInt_natCast,BitVec.toNat_ofNat];exact Nat.mod_eq_of_lt ha.lt
theorem Au {a b:Nat} (ha:Wd a) (hb:Wd b):bits .xor .u32 (a:Int) (b:Int)=((a ^^^ b:Nat):Int):=by
 have hx:=(Jb ha hb).lt;show IntKind.u32.wrap ((BitVec.ofInt 32 (a:Int) ^^^ BitVec.ofInt 32 (b:Int)).toNat:Int)=_
 rw[BitVec.toNat_xor,ofInt32 ha,ofInt32 hb,wrap32,Nat.mod_eq_of_lt hx]
theorem al0 {a b:Nat} (ha:Wd a) (hb:Wd b):bits .or .u32 (a:Int) (b:Int)=((a |||b:Nat):Int):=by
 have hx:a |||b < 4294967296:=Nat.or_lt_two_pow (n:=32) ha.lt hb.lt
 show IntKind.u32.wrap ((BitVec.ofInt 32 (a:Int) |||BitVec.ofInt 32 (b:Int)).toNat:Int)=_
 rw[BitVec.toNat_or,ofInt32 ha,ofInt32 hb,wrap32,Nat.mod_eq_of_lt hx]
theorem nK {x:Nat} (hx:Wd x) {n:Nat}:bits .or .u32 (IntKind.u32.wrap ((x:Int)*((2 ^ (32-n):Nat):Int))) ((x:Int) / ((2 ^ n:Nat):Int))=((dU x n:Nat):Int):=by
 have e1:IntKind.u32.wrap ((x:Int)*((2 ^ (32-n):Nat):Int))=(((x <<< (32-n)) % 4294967296:Nat):Int):=by
  rw[←Int.natCast_mul,wrap32,Nat.shiftLeft_eq]
 have e2:(x:Int) / ((2 ^ n:Nat):Int)=((x >>> n:Nat):Int):=by
  rw[←Int.natCast_ediv,Nat.shiftRight_eq_div_pow]
 rw[e1,e2,al0 (Wd.mod _) (Wd.of (Nat.lt_of_le_of_lt (Nat.shiftRight_le _ _) hx.lt))];rfl
def jD (xs:List Nat):Array Value:=(xs.map fun (x:Nat)=>Value.int .u32 (x:Int)).toArray
theorem RJ (xs:List Nat):(jD xs).size=xs.length:=by simp[jD]
theorem zi {xs:List Nat} {i:Nat} (h:i < xs.length):(jD xs)[i]? = some (.int .u32 ((xs.getD i 0:Nat):Int)):=by
 simp[jD,h]
theorem Bz (xs:List Nat) (i x:Nat):(jD xs).setIfInBounds i (.int .u32 (x:Int))=jD (xs.set i x):=by
 simp[jD,List.map_set]
theorem ad8 {x:Nat} (hx:Wd x):bits .or .u32 (IntKind.u32.wrap ((x:Int)*1073741824)) ((x:Int) / 4)=((dU x 2:Nat):Int):=nK hx (n:=2)
theorem aea {x:Nat} (hx:Wd x) (w:World) :
 Calls Tryz.prog 238 #[.int .u32 (x:Int),.int .i64 (-2)] w fun e w'=>e =.returned (.int .u32 ((dU x 2:Nat):Int))∧w'=w:=by
 have h:=ad8 hx;have hs:bits .and .u64 (IntKind.u64.wrap (-2)) 31=30:=δ;clear hx;generalize dU x 2=R at *
 go_enter Tryz.func238,Tryz.ntmps238
 go_wp2;go_ret;exact⟨og h,rfl⟩
theorem ad7 {x:Nat} (hx:Wd x):bits .or .u32 (IntKind.u32.wrap ((x:Int)*67108864)) ((x:Int) / 64)=((dU x 6:Nat):Int):=nK hx (n:=6)
theorem ad_ {x:Nat} (hx:Wd x) (w:World) :
 Calls Tryz.prog 238 #[.int .u32 (x:Int),.int .i64 (-6)] w fun e w'=>e =.returned (.int .u32 ((dU x 6:Nat):Int))∧w'=w:=by
 have h:=ad7 hx;have hs:bits .and .u64 (IntKind.u64.wrap (-6)) 31=26:=δ;clear hx;generalize dU x 6=R at *
 go_enter Tryz.func238,Tryz.ntmps238
 go_wp2;go_ret;exact⟨og h,rfl⟩
theorem ad6 {x:Nat} (hx:Wd x):bits .or .u32 (IntKind.u32.wrap ((x:Int)*33554432)) ((x:Int) / 128)=((dU x 7:Nat):Int):=nK hx (n:=7)
theorem ad9 {x:Nat} (hx:Wd x) (w:World) :
 Calls Tryz.prog 238 #[.int .u32 (x:Int),.int .i64 (-7)] w fun e w'=>e =.returned (.int .u32 ((dU x 7:Nat):Int))∧w'=w:=by
 have h:=ad6 hx;have hs:bits .and .u64 (IntKind.u64.wrap (-7)) 31=25:=δ;clear hx;generalize dU x 7=R at *
 go_enter Tryz.func238,Tryz.ntmps238
 go_wp2;go_ret;exact⟨og h,rfl⟩
theorem ZX {x:Nat} (hx:Wd x):bits .or .u32 (IntKind.u32.wrap ((x:Int)*2097152)) ((x:Int) / 2048)=((dU x 11:Nat):Int):=nK hx (n:=11)
theorem Z_ {x:Nat} (hx:Wd x) (w:World) :
 Calls Tryz.prog 238 #[.int .u32 (x:Int),.int .i64 (-11)] w fun e w'=>e =.returned (.int .u32 ((dU x 11:Nat):Int))∧w'=w:=by
 have h:=ZX hx;have hs:bits .and .u64 (IntKind.u64.wrap (-11)) 31=21:=δ;clear hx;generalize dU x 11=R at *
 go_enter Tryz.func238,Tryz.ntmps238
 go_wp2;go_ret;exact⟨og h,rfl⟩
theorem ZW {x:Nat} (hx:Wd x):bits .or .u32 (IntKind.u32.wrap ((x:Int)*524288)) ((x:Int) / 8192)=((dU x 13:Nat):Int):=nK hx (n:=13)
theorem Z9 {x:Nat} (hx:Wd x) (w:World) :
 Calls Tryz.prog 238 #[.int .u32 (x:Int),.int .i64 (-13)] w fun e w'=>e =.returned (.int .u32 ((dU x 13:Nat):Int))∧w'=w:=by
 have h:=ZW hx;have hs:bits .and .u64 (IntKind.u64.wrap (-13)) 31=19:=δ;clear hx;generalize dU x 13=R at *
 go_enter Tryz.func238,Tryz.ntmps238
 go_wp2;go_ret;exact⟨og h,rfl⟩
theorem ZV {x:Nat} (hx:Wd x):bits .or .u32 (IntKind.u32.wrap ((x:Int)*32768)) ((x:Int) / 131072)=((dU x 17:Nat):Int):=nK hx (n:=17)
theorem Z8 {x:Nat} (hx:Wd x) (w:World) :
 Calls Tryz.prog 238 #[.int .u32 (x:Int),.int .i64 (-17)] w fun e w'=>e =.returned (.int .u32 ((dU x 17:Nat):Int))∧w'=w:=by
 have h:=ZV hx;have hs:bits .and .u64 (IntKind.u64.wrap (-17)) 31=15:=δ;clear hx;generalize dU x 17=R at *
 go_enter Tryz.func238,Tryz.ntmps238
 go_wp2;go_ret;exact⟨og h,rfl⟩
theorem ZU {x:Nat} (hx:Wd x):bits .or .u32 (IntKind.u32.wrap ((x:Int)*16384)) ((x:Int) / 262144)=((dU x 18:Nat):Int):=nK hx (n:=18)
theorem Z7 {x:Nat} (hx:Wd x) (w:World) :
 Calls Tryz.prog 238 #[.int .u32 (x:Int),.int .i64 (-18)] w fun e w'=>e =.returned (.int .u32 ((dU x 18:Nat):Int))∧w'=w:=by
 have h:=ZU hx;have hs:bits .and .u64 (IntKind.u64.wrap (-18)) 31=14:=δ;clear hx;generalize dU x 18=R at *
 go_enter Tryz.func238,Tryz.ntmps238
 go_wp2;go_ret;exact⟨og h,rfl⟩
theorem ZT {x:Nat} (hx:Wd x):bits .or .u32 (IntKind.u32.wrap ((x:Int)*8192)) ((x:Int) / 524288)=((dU x 19:Nat):Int):=nK hx (n:=19)
theorem Z5 {x:Nat} (hx:Wd x) (w:World) :
 Calls Tryz.prog 238 #[.int .u32 (x:Int),.int .i64 (-19)] w fun e w'=>e =.returned (.int .u32 ((dU x 19:Nat):Int))∧w'=w:=by
 have h:=ZT hx;have hs:bits .and .u64 (IntKind.u64.wrap (-19)) 31=13:=δ;clear hx;generalize dU x 19=R at *
 go_enter Tryz.func238,Tryz.ntmps238
 go_wp2;go_ret;exact⟨og h,rfl⟩
theorem ZR {x:Nat} (hx:Wd x):bits .or .u32 (IntKind.u32.wrap ((x:Int)*1024)) ((x:Int) / 4194304)=((dU x 22:Nat):Int):=nK hx (n:=22)
theorem Z4 {x:Nat} (hx:Wd x) (w:World) :
 Calls Tryz.prog 238 #[.int .u32 (x:Int),.int .i64 (-22)] w fun e w'=>e =.returned (.int .u32 ((dU x 22:Nat):Int))∧w'=w:=by
 have h:=ZR hx;have hs:bits .and .u64 (IntKind.u64.wrap (-22)) 31=10:=δ;clear hx;generalize dU x 22=R at *
 go_enter Tryz.func238,Tryz.ntmps238
 go_wp2;go_ret;exact⟨og h,rfl⟩
theorem ZQ {x:Nat} (hx:Wd x):bits .or .u32 (IntKind.u32.wrap ((x:Int)*128)) ((x:Int) / 33554432)=((dU x 25:Nat):Int):=nK hx (n:=25)
theorem ZY {x:Nat} (hx:Wd x) (w:World) :
 Calls Tryz.prog 238 #[.int .u32 (x:Int),.int .i64 (-25)] w fun e w'=>e =.returned (.int .u32 ((dU x 25:Nat):Int))∧w'=w:=by
 have h:=ZQ hx;have hs:bits .and .u64 (IntKind.u64.wrap (-25)) 31=7:=δ;clear hx;generalize dU x 25=R at *
 go_enter Tryz.func238,Tryz.ntmps238
 go_wp2;go_ret;exact⟨og h,rfl⟩
theorem aaH {x:Nat} (hx:Wd x) (w:World) :
 Calls Tryz.prog 213 #[.agg #[.int .i64 7,.int .i64 18,.int .i64 0,.int .i64 3],.int .u32 (x:Int)] w fun e w'=>e =.returned (.int .u32 ((QK 7 18 3 x:Nat):Int))∧ah w w':=by
 have h1:bits .xor .u32 ((dU x 7:Nat):Int) ((dU x 18:Nat):Int)=((dU x 7 ^^^ dU x 18:Nat):Int):=Au (jk hx) (jk hx);have h2:bits .xor .u32 ((dU x 7 ^^^ dU x 18:Nat):Int) ((x:Int) / 8)=((QK 7 18 3 x:Nat):Int):=by
  have e:(x:Int) / (8:Int)=((x >>> 3:Nat):Int):=by
   rw[Nat.shiftRight_eq_div_pow];exact (Int.natCast_ediv x (2 ^ 3)).symm
  rw[e];exact Au (Jb (jk hx) (jk hx)) (Wd.of (Nat.lt_of_le_of_lt (Nat.shiftRight_le _ _) hx.lt))
 have cA:=fun W=>ad9 hx W
 have cB:=fun W=>Z7 hx W
 clear hx;generalize QK 7 18 3 x = V at *
 generalize dU x 7 ^^^ dU x 18=U at *
 generalize dU x 7=R1 at *
 generalize dU x 18=R2 at *
 replace cA:=ζ cA;replace cB:=ζ cB;go_enter Tryz.func213,Tryz.ntmps213
 go_wp2_with fail;refine dw (μ [0,1,2,3,5,6,7,8,4,9,10,11] [4,9]) κ κ rfl κ π ?_;iterate 8 refine gK ?_
 refine jL rfl (fun K' hK=> ?_);go_simp;refine (cA.out _).mono ?_;rintro e w1 ⟨rfl,rfl⟩;refine hK.o _ _ ?_ (fun hS=> ?_)
 ·exact γ
 clear hK hS;refine jL rfl (fun K' hK=> ?_);go_simp;refine (cB.out _).mono ?_;rintro e w2 ⟨rfl,rfl⟩;refine hK.o _ _ ?_ (fun hS=> ?_)
 ·exact γ
 clear hK hS;iterate 2 refine gK ?_
 refine g_ ?_;go_wp2;go_ret;exact⟨rfl,by
  exact γ
 ⟩
theorem Xp {x:Nat} (hx:Wd x) (w:World) :
 Calls Tryz.prog 213 #[.agg #[.int .i64 17,.int .i64 19,.int .i64 0,.int .i64 10],.int .u32 (x:Int)] w fun e w'=>e =.returned (.int .u32 ((QK 17 19 10 x:Nat):Int))∧ah w w':=by
 have h1:bits .xor .u32 ((dU x 17:Nat):Int) ((dU x 19:Nat):Int)=((dU x 17 ^^^ dU x 19:Nat):Int):=Au (jk hx) (jk hx);have h2:bits .xor .u32 ((dU x 17 ^^^ dU x 19:Nat):Int) ((x:Int) / 1024)=((QK 17 19 10 x:Nat):Int):=by
  have e:(x:Int) / (1024:Int)=((x >>> 10:Nat):Int):=by
   rw[Nat.shiftRight_eq_div_pow];exact (Int.natCast_ediv x (2 ^ 10)).symm
  rw[e];exact Au (Jb (jk hx) (jk hx)) (Wd.of (Nat.lt_of_le_of_lt (Nat.shiftRight_le _ _) hx.lt))
 have cA:=fun W=>Z8 hx W
 have cB:=fun W=>Z5 hx W
 clear hx;generalize QK 17 19 10 x = V at *
 generalize dU x 17 ^^^ dU x 19=U at *
 generalize dU x 17=R1 at *
 generalize dU x 19=R2 at *
 replace cA:=ζ cA;replace cB:=ζ cB;go_enter Tryz.func213,Tryz.ntmps213
 go_wp2_with fail;refine dw (μ [0,1,2,3,5,6,7,8,4,9,10,11] [4,9]) κ κ rfl κ π ?_;iterate 8 refine gK ?_
 refine jL rfl (fun K' hK=> ?_);go_simp;refine (cA.out _).mono ?_;rintro e w1 ⟨rfl,rfl⟩;refine hK.o _ _ ?_ (fun hS=> ?_)
 ·exact γ
 clear hK hS;refine jL rfl (fun K' hK=> ?_);go_simp;refine (cB.out _).mono ?_;rintro e w2 ⟨rfl,rfl⟩;refine hK.o _ _ ?_ (fun hS=> ?_)
 ·exact γ
 clear hK hS;iterate 2 refine gK ?_
 refine g_ ?_;go_wp2;go_ret;exact⟨rfl,by
  exact γ
 ⟩
theorem aaJ {x:Nat} (hx:Wd x) (w:World) :
 Calls Tryz.prog 213 #[.agg #[.int .i64 6,.int .i64 11,.int .i64 25,.int .i64 0],.int .u32 (x:Int)] w fun e w'=>e =.returned (.int .u32 ((sig 6 11 25 x:Nat):Int))∧ah w w':=by
 have h1:bits .xor .u32 ((dU x 6:Nat):Int) ((dU x 11:Nat):Int)=((dU x 6 ^^^ dU x 11:Nat):Int):=Au (jk hx) (jk hx);have h2:bits .xor .u32 ((dU x 6 ^^^ dU x 11:Nat):Int) ((dU x 25:Nat):Int)=((sig 6 11 25 x:Nat):Int):=Au (Jb (jk hx) (jk hx)) (jk hx);have cA:=fun W=>ad_ hx W
 have cB:=fun W=>Z_ hx W
 have cC:=fun W=>ZY hx W
 clear hx;generalize sig 6 11 25 x = V at *
 generalize dU x 6 ^^^ dU x 11=U at *
 generalize dU x 6=R1 at *
 generalize dU x 11=R2 at *
 generalize dU x 25=R3 at *
 replace cA:=ζ cA;replace cB:=ζ cB;replace cC:=ζ cC;go_enter Tryz.func213,Tryz.ntmps213
 go_wp2_with fail;refine dw (μ [0,1,2,3,5,6,7,8,4,9,10,11] [4,9]) κ κ rfl κ π ?_;iterate 8 refine gK ?_
 refine jL rfl (fun K' hK=> ?_);go_simp;refine (cA.out _).mono ?_;rintro e w1 ⟨rfl,rfl⟩;refine hK.o _ _ ?_ (fun hS=> ?_)
 ·exact γ
 clear hK hS;refine jL rfl (fun K' hK=> ?_);go_simp;refine (cB.out _).mono ?_;rintro e w2 ⟨rfl,rfl⟩;refine hK.o _ _ ?_ (fun hS=> ?_)
 ·exact γ
 clear hK hS;iterate 2 refine gK ?_
 refine g_ ?_;go_wp2_with fail;refine (cC.out _).mono ?_;rintro e w3 ⟨rfl,rfl⟩;go_wp2;go_ret;exact⟨rfl,by
  exact γ
 ⟩
theorem UN {x:Nat} (hx:Wd x) (w:World) :
 Calls Tryz.prog 213 #[.agg #[.int .i64 2,.int .i64 13,.int .i64 22,.int .i64 0],.int .u32 (x:Int)] w fun e w'=>e =.returned (.int .u32 ((sig 2 13 22 x:Nat):Int))∧ah w w':=by
 have h1:bits .xor .u32 ((dU x 2:Nat):Int) ((dU x 13:Nat):Int)=((dU x 2 ^^^ dU x 13:Nat):Int):=Au (jk hx) (jk hx);have h2:bits .xor .u32 ((dU x 2 ^^^ dU x 13:Nat):Int) ((dU x 22:Nat):Int)=((sig 2 13 22 x:Nat):Int):=Au (Jb (jk hx) (jk hx)) (jk hx);have cA:=fun W=>aea hx W
 have cB:=fun W=>Z9 hx W
 have cC:=fun W=>Z4 hx W
 clear hx;generalize sig 2 13 22 x = V at *
 generalize dU x 2 ^^^ dU x 13=U at *
 generalize dU x 2=R1 at *
 generalize dU x 13=R2 at *
 generalize dU x 22=R3 at *
 replace cA:=ζ cA;replace cB:=ζ cB;replace cC:=ζ cC;go_enter Tryz.func213,Tryz.ntmps213
 go_wp2_with fail;refine dw (μ [0,1,2,3,5,6,7,8,4,9,10,11] [4,9]) κ κ rfl κ π ?_;iterate 8 refine gK ?_
 refine jL rfl (fun K' hK=> ?_);go_simp;refine (cA.out _).mono ?_;rintro e w1 ⟨rfl,rfl⟩;refine hK.o _ _ ?_ (fun hS=> ?_)
 ·exact γ
 clear hK hS;refine jL rfl (fun K' hK=> ?_);go_simp;refine (cB.out _).mono ?_;rintro e w2 ⟨rfl,rfl⟩;refine hK.o _ _ ?_ (fun hS=> ?_)
 ·exact γ
 clear hK hS;iterate 2 refine gK ?_
 refine g_ ?_;go_wp2_with fail;refine (cC.out _).mono ?_;rintro e w3 ⟨rfl,rfl⟩;go_wp2;go_ret;exact⟨rfl,by
  exact γ
 ⟩
def UD:List Nat:=[oZ.a,oZ.b,oZ.c,oZ.d,oZ.e,oZ.f,oZ.g,oZ.h]
theorem adN (w:World):Calls Tryz.prog 179 #[] w fun e w'=>e =.returned (.agg (jD UD))∧ah w w':=by
 go_enter Tryz.func179,Tryz.ntmps179
 go_wp2;refine bodyPost_ret (v:=.agg (jD UD)) ?_ rfl ⟨rfl,?_⟩
 ·simp[results,Tryz.results179,go_sem];rfl
 ·exact γ
theorem aiI (w:World):Calls Tryz.prog 214 #[] w fun e w'=>e =.returned (.agg (jD pJ))∧ah w w':=by
 go_enter Tryz.func214,Tryz.ntmps214
 iterate 9 go_step
 go_step
 go_step
 refine wpList_build rfl 317 _ rfl κ ?_;refine wpList_store_row rfl 317 (.tmp 0) (.tmp 1) rfl w.heap.size (jD pJ) rfl κ 317 _ (aF.new w _ _) κ rfl κ ?_;rw[World.setRow_alloc_new];generalize Program.built _ _ _ = built;go_wp2;refine bodyPost_ret (v:=.agg (jD pJ)) (results_cell_row (p:=0) (ty:=317) κ _ _ w.heap.size _ (jD pJ) (0,0) _ rfl (heap_alloc_new w _) Tryz.underlying317 rfl κ) rfl ⟨rfl,?_⟩;exact γ
end Go.Proofs.YtbhikkgpcmkonaaGreatDoor
namespace Go.Proofs.YtbhikkgpcmkonaaGreatDoor
def qy (l:List Nat):List Nat:=l ++List.replicate (64-l.length) 0
theorem Jr {l:List Nat} (h:l.length≤64):(qy l).length=64:=by
 unfold qy;rw[List.length_append,List.length_replicate];omega
theorem aao {l:List Nat} (h:l.length=64):qy l = l:=by unfold qy;rw[h];simp
theorem aii {l:List Nat} {i:Nat} (h:i < l.length):(qy l).getD i 0=l.getD i 0:=by
 unfold qy;simp only[List.getD_eq_getElem?_getD,List.getElem?_append_left h]
theorem NT {l:List Nat} (h:l.length<64):(qy l).getD l.length 0=0:=by
 unfold qy;rw[List.getD_eq_getElem?_getD,List.getElem?_append_right (Nat.le_refl _),Nat.sub_self,List.getElem?_replicate_of_lt ω];rfl
theorem Sm {l:List Nat} (x:Nat) (h:l.length<64):(qy l).set l.length x = qy (l ++[x]):=by
 unfold qy;rw[List.set_append_right _ _ (Nat.le_refl _),Nat.sub_self,List.append_assoc];congr 1
 rw[show 64-l.length=(64-(l ++[x]).length)+1 by rw[List.length_append];simp;omega,List.replicate_succ];rfl
def beN (b:List Nat) (i:Nat):Nat→Nat
 | 0=>0
 | j + 1=>beN b i j * 256+b.getD (4*i + j) 0
theorem YL (b:List Nat) (i:Nat):beN b i 0=0:=rfl
theorem CX (b:List Nat) (i j:Nat):beN b i (j + 1)=beN b i j * 256+b.getD (4*i + j) 0:=rfl
theorem akF (b:List Nat) (i:Nat):beN b i 4=be4 b i:=by
 rw[CX,CX,CX,CX,YL,Nat.add_zero];unfold be4;omega
theorem afB {b:List Nat} (hb:∀x∈b,x < 256) (i:Nat):b.getD i 0<256:=by
 rw[List.getD_eq_getElem?_getD];cases h:b[i]? with
 | none=>simp
 | some x=>exact hb x (List.mem_of_getElem? h)
theorem aq6 {b:List Nat} (hb:∀x∈b,x < 256) (i j:Nat):beN b i j < 256 ^ j:=by
 induction j with
 | zero=>simp[YL]
 | succ j ih=>
  have:=afB hb (4*i + j);rw[CX,Nat.pow_succ];omega
theorem aq7 {b:List Nat} (hb:∀x∈b,x < 256) (i:Nat):Wd (be4 b i):=by
 have:=aq6 hb i 4;rw[akF] at this;exact this
theorem qR (b:List Nat):(dD b).length=16:=by simp[dD]
theorem afJ (b:List Nat) {i:Nat} (h:i < 16):(dD b)[i]? = some (be4 b i):=by
 simp[dD,h]
theorem afI {b:List Nat} (hb:∀x∈b,x < 256):∀x∈dD b,Wd x:=by
 intro x hx;simp only[dD,List.mem_map] at hx;obtain⟨i,_,rfl⟩:=hx;exact aq7 hb i
theorem Yj (b:List Nat) {i:Nat} (h:i < 16):(dD b).take (i + 1)=(dD b).take i ++[be4 b i]:=by
 rw[List.take_add_one,afJ b h];rfl
theorem take_len {b:List Nat} {i:Nat} (h:i≤16):((dD b).take i).length=i:=by
 rw[List.length_take,qR];omega
theorem Zn {n:Nat} {b:List Nat}:oW (words n (dD b)) =
 Uf ((words n (dD b)).getD n 0) ((words n (dD b)).getD (n + 1) 0) ((words n (dD b)).getD (n + 9) 0) ((words n (dD b)).getD (n + 14) 0):=by
 unfold oW;rw[yu,qR,show 16+n - 16=n by omega,show 16+n - 15=n + 1 by omega,show 16+n - 7=n + 9 by omega,show 16+n - 2=n + 14 by omega]
theorem ag9 {b:List Nat} (hb:∀x∈b,x < 256) (n i:Nat):Wd ((words n (dD b)).getD i 0):=by
 rw[List.getD_eq_getElem?_getD];cases h:(words n (dD b))[i]? with
 | none=>exact Wd.of σ
 | some x=>exact ag8 n (afI hb) x (List.mem_of_getElem? h)
end Go.Proofs.YtbhikkgpcmkonaaGreatDoor
namespace Go.Proofs.YtbhikkgpcmkonaaGreatDoor
open Go.RowKit
def tZ (v:List Nat) (rest:Value) (count:Int):Array Value:=jD v ++ #[rest,.int .i64 count]
theorem aaz (w:World):Calls Tryz.prog 144 #[] w fun e w'=>∃g,e =.returned (.pointer (some ⟨g,0,none⟩))∧w.heap.size≤g∧aF w' g 282 (tZ UD (.slice none 0 0) 0)∧ah w w':=by
 have cS:=fun W=>adN W
 replace cS:=ζ cS;go_enter Tryz.func144,Tryz.ntmps144
 go_wp2_with fail;refine (cS.out _).mono ?_;rintro e w1 ⟨rfl,hb1⟩;rw[show jD UD= #[.int .u32 1779033703,.int .u32 3144134277,.int .u32 1013904242,.int .u32 2773480762,.int .u32 1359893119,.int .u32 2600822924,.int .u32 528734635,.int .u32 1541459225] from rfl];go_wp2;go_ret;exact⟨_,rfl,hb1.size,aF.new w1 _ _,hb1.alloc _⟩
end Go.Proofs.YtbhikkgpcmkonaaGreatDoor
namespace Go.Proofs.YtbhikkgpcmkonaaGreatDoor
def jM (bs:List Nat):Nat→Nat
 | 0=>0
 | n + 1=>jM bs n * 256+bs.getD n 0
theorem UE (bs:List Nat):jM bs 0=0:=rfl
theorem Hy (bs:List Nat) (n:Nat):jM bs (n + 1)=jM bs n * 256+bs.getD n 0:=rfl
theorem OE {b:List Nat} (hb:∀x∈b,x < 256) (i:Nat):b.getD i 0<256:=by
 rw[List.getD_eq_getElem?_getD];cases h:b[i]? with
 | none=>simp
 | some x=>exact hb x (List.mem_of_getElem? h)
theorem ZI {bs:List Nat} (hb:∀x∈bs,x < 256) (n:Nat):jM bs n < 256 ^ n:=by
 induction n with
 | zero=>simp[UE]
 | succ n ih=>
  have:=OE hb n;rw[Hy,Nat.pow_succ];omega
theorem alZ {n c:Nat} (hc:c < 256):n * 256 |||c = n * 256+c:=by
 have:=Nat.shiftLeft_add_eq_or_of_lt (i:=8) (b:=c) hc n;rw[Nat.shiftLeft_eq] at this;exact this.symm
theorem aes {n c:Nat} (hn:n * 256+c < 18446744073709551616) (hc:c < 256):bits .or .u64 (IntKind.u64.wrap ((n:Int)*256)) (c:Int)=((n * 256+c:Nat):Int):=by
 have e:IntKind.u64.wrap ((n:Int)*256)=((n * 256:Nat):Int):=by
  rw[IntKind.wrap_u64];omega
 have ha:=Nat.lt_of_le_of_lt (Nat.le_add_right (n * 256) c) hn;have hb:=Nat.lt_of_le_of_lt (Nat.le_add_left c (n * 256)) hn;rw[e];exact (bits_or_u64_nat (n * 256) c ha hb).trans (by rw[alZ hc])
end Go.Proofs.YtbhikkgpcmkonaaGreatDoor
namespace Go.Proofs.YtbhikkgpcmkonaaGreatDoor
open Go.RowKit
def wF (xs:List Nat):Array Value:=(xs.map fun (x:Nat)=>Value.int .u8 (x:Int)).toArray
theorem yB (xs:List Nat):(wF xs).size=xs.length:=by simp[wF]
theorem ahi {xs:List Nat} {i:Nat} (h:i < xs.length):(wF xs)[i]? = some (.int .u8 ((xs.getD i 0:Nat):Int)):=by simp[wF,h]
theorem Um (xs:List Nat):(wF xs).all (·.oneCell')=true:=by simp[wF,Value.oneCell']
theorem ahY {A:Option Addr} {m c:Nat} {bs:List Nat} (w:World) (cOf:Calls Tryz.prog 93 #[.slice A m c] w fun e w'=>e =.returned (.agg (wF bs))∧ah w w') (hl:bs.length=32) (hb:∀x∈bs,x < 256) :
 Calls Tryz.prog 50 #[.slice A m c] w fun e w'=>e =.returned (.int .u64 ((jM bs 8:Nat):Int))∧ah w w':=by
 replace cOf:=ζ cOf;go_enter Tryz.func50,Tryz.ntmps50
 go_wp2_with fail;refine cOf.out.mono ?_;rintro e w1 ⟨rfl,hb1⟩;go_wp2_with (refine wpList_store_row rfl 201 (.tmp 4) (.tmp 8) rfl w1.heap.size (wF bs) rfl rfl 201 _ (aF.new w1 _ _) (by rw[yB,hl];kernel_rfl) (by rw[yB,hl];rfl) (Um bs) ?_);rw[World.setRow_alloc_new];have hB:aF (w1.alloc (.cells (wF bs) 201)) w1.heap.size 201 (wF bs):=aF.new w1 _ _;have hgr:ah w (w1.alloc (.cells (wF bs) 201)):=hb1.alloc _;have hw1:=hB.lt;generalize w1.alloc (.cells (wF bs) 201)=w2 at *
 generalize w1.heap.size=g at *
 clear hb1 cOf;have hc:∀i,i < 8→w2.cell? ⟨g,i,none⟩=some (.int .u8 ((bs.getD i 0:Nat):Int)):=fun i hi=>(hB.cell i).trans (ahi ω)
 replace hc:=ζ hc;replace hB:=ζ hB;go_loopw [3,11] (fun n i wr=>∃k:Nat,k≤8∧i =.int .i64 k∧n =.int .u64 ((jM bs k:Nat):Int)∧wr=w2) (fun _ i _=>8-(intOf i).toNat)
 case atStart=>exact⟨0,ω,rfl,rfl,rfl⟩
 case round=>
  obtain⟨k,hk,rfl,rfl,rfl⟩:=hrel;by_cases hlt:k<8
  ·have c0:=hc.o k hlt;have hx:=OE hb k;have hs:=Hy bs k;have hn:jM bs k*256+bs.getD k 0<18446744073709551616:=by
    have h1:=ZI hb (k+1);rw[hs] at h1;exact Nat.lt_of_lt_of_le h1 (Nat.le_trans (Nat.pow_le_pow_right (n:=256) δ (by omega:k+1≤8)) δ)
   have ho:=aes hn hx;replace hs:=ζ hs;generalize bs.getD k 0=x at *
   generalize jM bs k=n at *
   clear hn;go_wp2;go_roundw
   case rel=>exact⟨k+1,ω,ν,by rw[hs.o,Int.natCast_add,Int.natCast_mul];rfl,trivial⟩
   case measure=>exact ψ
  ·obtain rfl:k=8:=ω;go_wp2;go_ret;exact⟨rfl,hgr⟩
end Go.Proofs.YtbhikkgpcmkonaaGreatDoor
