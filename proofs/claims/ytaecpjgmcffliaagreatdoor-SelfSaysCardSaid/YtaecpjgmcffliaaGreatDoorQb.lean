/- Qb -/
import Derived.Test.YtaecpjgmcffliaaGreatDoorJc
import Derived.Test.YtaecpjgmcffliaaGreatDoorBd2
import Derived.Test.YtaecpjgmcffliaaGreatDoorGra
import Derived.Test.YtaecpjgmcffliaaGreatDoorSy2
set_option linter.unusedSimpArgs false
set_option linter.unusedVariables false
set_option maxRecDepth 10000
set_option maxHeartbeats 2000000
namespace Go.Al
abbrev gS (x:Int):Int:=IntKind.wrap .u32 x
def F9 (c:Int):Int:=
 if c=43 then 4 else if c=45 then 5 else if c=42 then 6 else if c=47 then 7 else if c=37 then 8 else if c=38 then 9 else if c=124 then 10 else if c=94 then 11 else if c=76 then 12 else if c=82 then 13 else if c=60 then 14 else if c=61 then 15
 else if c=33 then 1326579712 else if c=63 then 1997537280 else if c=64 then 1343357056 else if c=35 then 420483072 else if c=46 then 941621248 else if c=32 then 1645215744 else if c=69 then 908066816 else if c=36 then 1509949440 else 0
structure Zs where
 d:Int
 s:Int
 m:Int
def Gp (c:Int):Int:=if c<256 then F9 c else c
def Bl (c:Int):Int:=if Gp c=0 then 1125253120 else Gp c
def uZ (c:Int):Int:=if Bl c<16 then gS (gS (Bl c *16777216)+537985026)else Bl c
def Vk (c:Int) (z:Zs):Int:=if gS (c- 48)<10 then gS (gS (z.m *10)+gS (c- 48))else z.m
def Q3 (c:Int) (z:Zs):Int:=if c=32 then gS (uZ c+Vk c z/65536)else uZ c
def Nc (c:Int) (z:Zs):Int:=if c=32 then 0 else Vk c z
def C6 (c:Int) (z:Zs):Int:=if gS (c- 97)<26 then gS (z.s+c)else Q3 c z
def DI (c:Int) (z:Zs):Int:=if gS (c- 97)<26 then 1880096768 else z.s
def C7 (c:Int) (z:Zs):Int:=if c=58 then 824180736 else DI c z
def Nb (q c:Int) (z:Zs):Int:=if c=87 then gS (1628438528+gS (q *4))else C6 c z
def DN (c:Int) (z:Zs):Int:=if c=32 then gS (17825792+Vk c z % 65536)else gS (269484032+z.d)
def X5 (c:Int) (z:Zs):Int:=if c=64 then 421531648 else DN c z
def zd (q c:Int) (z:Zs):Int:=gS (gS (z.d+Nb q c z/536870912)- 2)
def DL (q c:Int) (z:Zs):Int:=if c=35 then 287375488 else gS (286261249+zd q c z)
def vT (q c:Int) (z:Zs):List Int:=[gS (270532609+z.d),X5 c z,Nb q c z % 536870912,DL q c z]
def Bw (q c:Int) (z:Zs):Zs:=⟨zd q c z,C7 c z,Nc c z⟩
def iK:List Int→Nat→Zs→Zs×List Int
 |[],_,z=>(z,[])
 |c::T,q,z=>((iK T (q+1) (Bw q c z)).1,vT q c z++(iK T (q+1) (Bw q c z)).2)
theorem zQ (A B:List Int): ∀(q:Nat) (z:Zs),iK (A++B) q z=((iK B (q+A.length) (iK A q z).1).1,(iK A q z).2++(iK B (q+A.length) (iK A q z).1).2):=by
 induction A with
 |nil=>intro q z;simp [iK]
 |cons c A ih=>
  intro q z;simp only[dM,iK,ih,aQ,bU];rw[show q+1+A.length=q+(A.length+1)by omega]
theorem X6 (A:List Int) (c:Int) (q:Nat) (z:Zs):iK (A++[c]) q z=(Bw (q+A.length:Nat) c (iK A q z).1,(iK A q z).2++vT (q+A.length:Nat) c (iK A q z).1):=by
 rw[zQ];simp [iK]
def U8 (c:UInt8) (p:List Int×Int):Option (List Int×Int):=
 if c=68∨c=73 then some (p.1++[p.2],p.1.length)
 else if c=69∨c=70 then
  (if 0≤p.2 then match p.1[p.2.toNat]? with
   |some x=>some ((p.1++[(c.toNat:Int)]).set p.2.toNat (857735172+4 *(p.1.length:Int)),x)
   |none=>none
  else none)
 else some (p.1++[(c.toNat:Int)],p.2)
def yE:dC→List Int×Int→Option (List Int×Int)
 |[],p=>some p
 |c::t,p=>(U8 c p).bind (yE t)
theorem lY (a b:dC) (p:List Int×Int):yE (a++b) p=(yE a p).bind (yE b):=by
 induction a generalizing p with
 |nil=>rfl
 |cons c a ih=>
  simp only[dM,yE]
  cases U8 c p with
  |none=>rfl
  |some p'=>simp only[cA,ih]
theorem OD {c:UInt8} {p p':List Int×Int} (h:U8 c p=some p'):p'.1.length=p.1.length+1:=by
 unfold U8 at h;split at h
 ·cases h;simp
 split at h
 ·split at h
  ·split at h
   ·cases h;simp
   cases h
  cases h
 cases h;simp
theorem U7 {t:dC} {p p':List Int×Int} (h:yE t p=some p'):p'.1.length=p.1.length+t.length:=by
 induction t generalizing p with
 |nil=>cases h;simp
 |cons c t ih=>
  simp only[yE,cV]at h;obtain⟨p1,h1,h2⟩:=h;rw[ih h2,OD h1,aQ];omega
def UL (x:Int):dC:=[UInt8.ofNat (x % 256).toNat,UInt8.ofNat (x/256 % 256).toNat,UInt8.ofNat (x/65536 % 256).toNat,UInt8.ofNat (x/16777216 % 256).toNat]
def vI:List Int→dC
 |[]=>[]
 |x::l=>UL x++vI l
theorem Uo: ∀a b:List Int,vI (a++b)=vI a++vI b
 |[],b=>rfl
 |x::a,b=>by simp only[dM,vI,Uo a b,bU]
theorem He: ∀a:List Int,(vI a).length=4 *a.length
 |[]=>rfl
 |x::a=>by simp only[vI,UL,aH,He a,aQ,aV];omega
def QH:Zs:=⟨0,1880096768,0⟩
def Yn (T:List Int):List Int:=[1145390419,4 *(T.length:Int),4224]++(iK T 0 QH).2
theorem vV: ∀(T:List Int) (q:Nat) (z:Zs),(iK T q z).2.length=4 *T.length
 |[],_,_=>rfl
 |c::T,q,z=>by simp only[iK,aH,vV T,vT,aQ,aV];omega
theorem P3 (a b:Int):eR 4 a b=(gS (a+b),0):=by simp [eR]
theorem LW (a b:Int):eR 5 a b=(gS (a-b),0):=by simp [eR]
theorem UU (a b:Int):eR 6 a b=(gS (a *b),0):=by simp [eR]
theorem Ea (a b:Int):eR 14 a b=(if a<b then 1 else 0,0):=by simp [eR]
theorem Uw (a b:Int):eR 15 a b=(if a=b then 1 else 0,0):=by simp [eR]
theorem UV (a:Int):eR 13 a 8=(a/256,0):=by simp [eR,oW]
theorem X4 (a:Int):eR 13 a 16=(a/65536,0):=by simp [eR,oW]
theorem PS (a:Int):eR 13 a 24=(a/16777216,0):=by simp [eR,oW]
theorem PQ (a:Int):eR 13 a 29=(a/536870912,0):=by simp [eR,oW]
theorem ZE {a:Int} (h:0≤a∧a<4294967296) (k:Nat) (t:k≤31) (b:Int) (p:b=((2^k- 1:Nat):Int)):eR 9 a b=(a % ((2^k:Nat):Int),0):=by
 obtain⟨u,rfl⟩: ∃u:Nat,a=u:=⟨a.toNat,by omega⟩;subst p;have A:u<2^32:=by omega
 have y:(2:Nat)^k≤2^31:=Nat.pow_le_pow_right (by decide) t;have j:0<(2:Nat)^k:=Nat.pow_pos (by decide);have e:(BitVec.ofInt 32 (u:Int)).toNat=u:=by rw[BitVec.ofInt_natCast,BitVec.toNat_ofNat];omega
 have f:(BitVec.ofInt 32 ((2^k- 1:Nat):Int)).toNat=2^k- 1:=by rw[BitVec.ofInt_natCast,BitVec.toNat_ofNat];omega
 have g:(BitVec.ofInt 32 (u:Int)&&&BitVec.ofInt 32 ((2^k- 1:Nat):Int)).toNat=u % 2^k:=by
  rw[BitVec.toNat_and,e,f,Nat.and_two_pow_sub_one_eq_mod]
 have z:u % 2^k<2^k:=sB _ j;unfold eR;rw[aL (by decide),aL (by decide),aL (by decide),aL (by decide),aL (by decide),bH rfl,g];rw[eH _ (by omega)];simp
theorem UT {a:Int} (h:0≤a∧a<4294967296):eR 9 a 65535=(a % 65536,0):=ZE h 16 (by decide) _ rfl
theorem US {a:Int} (h:0≤a∧a<4294967296):eR 9 a 536870911=(a % 536870912,0):=ZE h 29 (by decide) _ rfl
theorem Ll (x:Int):0≤gS x∧gS x<4294967296:=by
 show 0≤IntKind.wrap .u32 x∧IntKind.wrap .u32 x<_;rw[IntKind.wrap_u32];omega
theorem eP {x:Int} (h:0≤x∧x<4294967296):gS x=x:=eH _ (by omega)
def jW (c n o x s m v d i q:Int) (arr:List Int) (rd:Nat) (out:dC) (tk:Nat):RS:=⟨[c,n,o,x,s,m,v,d,i,q],[arr],rd,out,tk⟩
structure oU (rs:dC→Bool×Int):Prop where
 c:rs [99]=(false,0)
 n:rs [110]=(false,1)
 o:rs [111]=(false,2)
 x:rs [120]=(false,3)
 s:rs [115]=(false,4)
 m:rs [109]=(false,5)
 v:rs [118]=(false,6)
 d:rs [100]=(false,7)
 i:rs [105]=(false,8)
 q:rs [113]=(false,9)
 t:(rs [116]).2=0
section
variable {cx : Cx} {rs : dC → Bool × Int} {P : RS → Prop} {l : List Sm} {c n o x s m v d i q : Int} {arr : List Int} {rd : Nat} {out : dC} {tk : Nat}
theorem oU.vc (H:oU rs):PV rs (jW c n o x s m v d i q arr rd out tk) (.mk 2 0 0 [99] []) c:= .var (by rw[H.c];rfl)
theorem oU.vn (H:oU rs):PV rs (jW c n o x s m v d i q arr rd out tk) (.mk 2 0 0 [110] []) n:= .var (by rw[H.n];rfl)
theorem oU.vo (H:oU rs):PV rs (jW c n o x s m v d i q arr rd out tk) (.mk 2 0 0 [111] []) o:= .var (by rw[H.o];rfl)
theorem oU.vx (H:oU rs):PV rs (jW c n o x s m v d i q arr rd out tk) (.mk 2 0 0 [120] []) x:= .var (by rw[H.x];rfl)
theorem oU.vs (H:oU rs):PV rs (jW c n o x s m v d i q arr rd out tk) (.mk 2 0 0 [115] []) s:= .var (by rw[H.s];rfl)
theorem oU.vm (H:oU rs):PV rs (jW c n o x s m v d i q arr rd out tk) (.mk 2 0 0 [109] []) m:= .var (by rw[H.m];rfl)
theorem oU.vv (H:oU rs):PV rs (jW c n o x s m v d i q arr rd out tk) (.mk 2 0 0 [118] []) v:= .var (by rw[H.v];rfl)
theorem oU.vd (H:oU rs):PV rs (jW c n o x s m v d i q arr rd out tk) (.mk 2 0 0 [100] []) d:= .var (by rw[H.d];rfl)
theorem oU.vi (H:oU rs):PV rs (jW c n o x s m v d i q arr rd out tk) (.mk 2 0 0 [105] []) i:= .var (by rw[H.i];rfl)
theorem oU.vq (H:oU rs):PV rs (jW c n o x s m v d i q arr rd out tk) (.mk 2 0 0 [113] []) q:= .var (by rw[H.q];rfl)
theorem oU.wc (H:oU rs) {e:Ex} {w:Int} (a:PV rs (jW c n o x s m v d i q arr rd out tk) e w) (h:Wp cx rs l (jW w n o x s m v d i q arr rd out tk) P):Wp cx rs (.mk 1 [99] [e] [] []::l) (jW c n o x s m v d i q arr rd out tk) P:= .set a H.c (by decide) (by show _<10;decide) h
theorem oU.wn (H:oU rs) {e:Ex} {w:Int} (a:PV rs (jW c n o x s m v d i q arr rd out tk) e w) (h:Wp cx rs l (jW c w o x s m v d i q arr rd out tk) P):Wp cx rs (.mk 1 [110] [e] [] []::l) (jW c n o x s m v d i q arr rd out tk) P:= .set a H.n (by decide) (by show _<10;decide) h
theorem oU.wo (H:oU rs) {e:Ex} {w:Int} (a:PV rs (jW c n o x s m v d i q arr rd out tk) e w) (h:Wp cx rs l (jW c n w x s m v d i q arr rd out tk) P):Wp cx rs (.mk 1 [111] [e] [] []::l) (jW c n o x s m v d i q arr rd out tk) P:= .set a H.o (by decide) (by show _<10;decide) h
theorem oU.wx (H:oU rs) {e:Ex} {w:Int} (a:PV rs (jW c n o x s m v d i q arr rd out tk) e w) (h:Wp cx rs l (jW c n o w s m v d i q arr rd out tk) P):Wp cx rs (.mk 1 [120] [e] [] []::l) (jW c n o x s m v d i q arr rd out tk) P:= .set a H.x (by decide) (by show _<10;decide) h
theorem oU.ws (H:oU rs) {e:Ex} {w:Int} (a:PV rs (jW c n o x s m v d i q arr rd out tk) e w) (h:Wp cx rs l (jW c n o x w m v d i q arr rd out tk) P):Wp cx rs (.mk 1 [115] [e] [] []::l) (jW c n o x s m v d i q arr rd out tk) P:= .set a H.s (by decide) (by show _<10;decide) h
theorem oU.wm (H:oU rs) {e:Ex} {w:Int} (a:PV rs (jW c n o x s m v d i q arr rd out tk) e w) (h:Wp cx rs l (jW c n o x s w v d i q arr rd out tk) P):Wp cx rs (.mk 1 [109] [e] [] []::l) (jW c n o x s m v d i q arr rd out tk) P:= .set a H.m (by decide) (by show _<10;decide) h
theorem oU.wv (H:oU rs) {e:Ex} {w:Int} (a:PV rs (jW c n o x s m v d i q arr rd out tk) e w) (h:Wp cx rs l (jW c n o x s m w d i q arr rd out tk) P):Wp cx rs (.mk 1 [118] [e] [] []::l) (jW c n o x s m v d i q arr rd out tk) P:= .set a H.v (by decide) (by show _<10;decide) h
theorem oU.wd (H:oU rs) {e:Ex} {w:Int} (a:PV rs (jW c n o x s m v d i q arr rd out tk) e w) (h:Wp cx rs l (jW c n o x s m v w i q arr rd out tk) P):Wp cx rs (.mk 1 [100] [e] [] []::l) (jW c n o x s m v d i q arr rd out tk) P:= .set a H.d (by decide) (by show _<10;decide) h
theorem oU.wi (H:oU rs) {e:Ex} {w:Int} (a:PV rs (jW c n o x s m v d i q arr rd out tk) e w) (h:Wp cx rs l (jW c n o x s m v d w q arr rd out tk) P):Wp cx rs (.mk 1 [105] [e] [] []::l) (jW c n o x s m v d i q arr rd out tk) P:= .set a H.i (by decide) (by show _<10;decide) h
theorem oU.wq (H:oU rs) {e:Ex} {w:Int} (a:PV rs (jW c n o x s m v d i q arr rd out tk) e w) (h:Wp cx rs l (jW c n o x s m v d i w arr rd out tk) P):Wp cx rs (.mk 1 [113] [e] [] []::l) (jW c n o x s m v d i q arr rd out tk) P:= .set a H.q (by decide) (by show _<10;decide) h
theorem oU.it (H:oU rs) {a:Ex} {y w:Int} (e:PV rs (jW c n o x s m v d i q arr rd out tk) a y) (b:arr[y.toNat]?=some w):PV rs (jW c n o x s m v d i q arr rd out tk) (.mk 3 0 0 [116] [a]) w:= .idx e (by rw[H.t];decide) (by rw[H.t];rfl) b
theorem oU.st (H:oU rs) {a e:Ex} {y w:Int} (j:PV rs (jW c n o x s m v d i q arr rd out tk) a y) (g:PV rs (jW c n o x s m v d i q arr rd out tk) e w) (f:y.toNat<arr.length) (h:Wp cx rs l (jW c n o x s m v d i q (arr.set y.toNat w) rd out tk) P):Wp cx rs (.mk 2 [116] [a,e] [] []::l) (jW c n o x s m v d i q arr rd out tk) P:=
 .store (b:=(rs [116]).1) (i:=0) j g (by rw[←H.t]) (Int.le_refl 0) rfl f h
end
def IP:List Sm:=[.mk 2 [116] [.mk 1 0 3043 [] [], .mk 1 0 4 [] []] [] [],
 .mk 2 [116] [.mk 1 0 3045 [] [], .mk 1 0 5 [] []] [] [],
 .mk 2 [116] [.mk 1 0 3042 [] [], .mk 1 0 6 [] []] [] [],
 .mk 2 [116] [.mk 1 0 3047 [] [], .mk 1 0 7 [] []] [] [],
 .mk 2 [116] [.mk 1 0 3037 [] [], .mk 1 0 8 [] []] [] [],
 .mk 2 [116] [.mk 1 0 3038 [] [], .mk 1 0 9 [] []] [] [],
 .mk 2 [116] [.mk 1 0 3124 [] [], .mk 1 0 10 [] []] [] [],
 .mk 2 [116] [.mk 1 0 3094 [] [], .mk 1 0 11 [] []] [] [],
 .mk 2 [116] [.mk 1 0 3076 [] [], .mk 1 0 12 [] []] [] [],
 .mk 2 [116] [.mk 1 0 3082 [] [], .mk 1 0 13 [] []] [] [],
 .mk 2 [116] [.mk 1 0 3060 [] [], .mk 1 0 14 [] []] [] [],
 .mk 2 [116] [.mk 1 0 3061 [] [], .mk 1 0 15 [] []] [] [],
 .mk 2 [116] [.mk 1 0 3033 [] [], .mk 1 0 1326579712 [] []] [] [],
 .mk 2 [116] [.mk 1 0 3063 [] [], .mk 1 0 1997537280 [] []] [] [],
 .mk 2 [116] [.mk 1 0 3064 [] [], .mk 1 0 1343357056 [] []] [] [],
 .mk 2 [116] [.mk 1 0 3035 [] [], .mk 1 0 420483072 [] []] [] [],
 .mk 2 [116] [.mk 1 0 3046 [] [], .mk 1 0 941621248 [] []] [] [],
 .mk 2 [116] [.mk 1 0 3032 [] [], .mk 1 0 1645215744 [] []] [] [],
 .mk 2 [116] [.mk 1 0 3069 [] [], .mk 1 0 908066816 [] []] [] [],
 .mk 2 [116] [.mk 1 0 3036 [] [], .mk 1 0 1509949440 [] []] [] []]
def H7:List Sm:=[.mk 2 [116] [.mk 2 0 0 [110] [], .mk 2 0 0 [99] []] [] [],
 .mk 4 [] [.mk 6 15 0 [] [.mk 6 6 0 [] [.mk 6 5 0 [] [.mk 2 0 0 [99] [], .mk 1 0 68 [] []], .mk 6 5 0 [] [.mk 2 0 0 [99] [], .mk 1 0 73 [] []]], .mk 1 0 0 [] []]] [.mk 2 [116] [.mk 2 0 0 [110] [], .mk 2 0 0 [111] []] [] [], .mk 1 [111] [.mk 2 0 0 [110] []] [] []] [],
 .mk 4 [] [.mk 6 14 0 [] [.mk 6 5 0 [] [.mk 2 0 0 [99] [], .mk 1 0 69 [] []], .mk 1 0 2 [] []]] [.mk 1 [120] [.mk 3 0 0 [116] [.mk 2 0 0 [111] []]] [] [], .mk 2 [116] [.mk 2 0 0 [111] [], .mk 6 4 0 [] [.mk 1 0 857735172 [] [], .mk 6 6 0 [] [.mk 2 0 0 [110] [], .mk 1 0 4 [] []]]] [] [], .mk 1 [111] [.mk 2 0 0 [120] []] [] []] [],
 .mk 1 [110] [.mk 6 4 0 [] [.mk 2 0 0 [110] [], .mk 1 0 1 [] []]] [] [],
 .mk 1 [99] [.mk 5 0 0 [] []] [] []]
def WE:List Sm:=[.mk 2 [116] [.mk 1 0 4001 [] [], .mk 1 0 1145390419 [] []] [] [],
 .mk 2 [116] [.mk 1 0 4002 [] [], .mk 6 6 0 [] [.mk 2 0 0 [110] [], .mk 1 0 4 [] []]] [] [],
 .mk 2 [116] [.mk 1 0 4003 [] [], .mk 1 0 4224 [] []] [] [],
 .mk 1 [105] [.mk 1 0 4001 [] []] [] [],
 .mk 1 [115] [.mk 1 0 1880096768 [] []] [] []]
def Gx:List Sm:=[.mk 1 [120] [.mk 3 0 0 [116] [.mk 2 0 0 [105] []]] [] [],
 .mk 3 [] [.mk 2 0 0 [120] []] [] [],
 .mk 3 [] [.mk 6 13 0 [] [.mk 2 0 0 [120] [], .mk 1 0 8 [] []]] [] [],
 .mk 3 [] [.mk 6 13 0 [] [.mk 2 0 0 [120] [], .mk 1 0 16 [] []]] [] [],
 .mk 3 [] [.mk 6 13 0 [] [.mk 2 0 0 [120] [], .mk 1 0 24 [] []]] [] [],
 .mk 1 [105] [.mk 6 4 0 [] [.mk 2 0 0 [105] [], .mk 1 0 1 [] []]] [] []]
def Ab:List Sm:=[.mk 1 [99] [.mk 3 0 0 [116] [.mk 2 0 0 [113] []]] [] [],
 .mk 1 [118] [.mk 2 0 0 [99] []] [] [],
 .mk 4 [] [.mk 6 14 0 [] [.mk 2 0 0 [99] [], .mk 1 0 256 [] []]] [.mk 1 [118] [.mk 3 0 0 [116] [.mk 6 4 0 [] [.mk 2 0 0 [99] [], .mk 1 0 3000 [] []]]] [] []] [],
 .mk 4 [] [.mk 6 15 0 [] [.mk 2 0 0 [118] [], .mk 1 0 0 [] []]] [.mk 1 [118] [.mk 1 0 1125253120 [] []] [] []] [],
 .mk 4 [] [.mk 6 14 0 [] [.mk 2 0 0 [118] [], .mk 1 0 16 [] []]] [.mk 1 [118] [.mk 6 4 0 [] [.mk 6 6 0 [] [.mk 2 0 0 [118] [], .mk 1 0 16777216 [] []], .mk 1 0 537985026 [] []]] [] []] [],
 .mk 2 [116] [.mk 1 0 4000 [] [], .mk 6 4 0 [] [.mk 1 0 270532609 [] [], .mk 2 0 0 [100] []]] [] [],
 .mk 2 [116] [.mk 1 0 4001 [] [], .mk 6 4 0 [] [.mk 1 0 269484032 [] [], .mk 2 0 0 [100] []]] [] [],
 .mk 4 [] [.mk 6 14 0 [] [.mk 6 5 0 [] [.mk 2 0 0 [99] [], .mk 1 0 48 [] []], .mk 1 0 10 [] []]] [.mk 1 [109] [.mk 6 4 0 [] [.mk 6 6 0 [] [.mk 2 0 0 [109] [], .mk 1 0 10 [] []], .mk 6 5 0 [] [.mk 2 0 0 [99] [], .mk 1 0 48 [] []]]] [] []] [],
 .mk 4 [] [.mk 6 15 0 [] [.mk 2 0 0 [99] [], .mk 1 0 32 [] []]] [.mk 2 [116] [.mk 1 0 4001 [] [], .mk 6 4 0 [] [.mk 1 0 17825792 [] [], .mk 6 9 0 [] [.mk 2 0 0 [109] [], .mk 1 0 65535 [] []]]] [] [], .mk 1 [118] [.mk 6 4 0 [] [.mk 2 0 0 [118] [], .mk 6 13 0 [] [.mk 2 0 0 [109] [], .mk 1 0 16 [] []]]] [] [], .mk 1 [109] [.mk 1 0 0 [] []] [] []] [],
 .mk 4 [] [.mk 6 14 0 [] [.mk 6 5 0 [] [.mk 2 0 0 [99] [], .mk 1 0 97 [] []], .mk 1 0 26 [] []]] [.mk 1 [118] [.mk 6 4 0 [] [.mk 2 0 0 [115] [], .mk 2 0 0 [99] []]] [] [], .mk 1 [115] [.mk 1 0 1880096768 [] []] [] []] [],
 .mk 4 [] [.mk 6 15 0 [] [.mk 2 0 0 [99] [], .mk 1 0 58 [] []]] [.mk 1 [115] [.mk 1 0 824180736 [] []] [] []] [],
 .mk 4 [] [.mk 6 15 0 [] [.mk 2 0 0 [99] [], .mk 1 0 64 [] []]] [.mk 2 [116] [.mk 1 0 4001 [] [], .mk 1 0 421531648 [] []] [] []] [],
 .mk 4 [] [.mk 6 15 0 [] [.mk 2 0 0 [99] [], .mk 1 0 87 [] []]] [.mk 1 [118] [.mk 6 4 0 [] [.mk 1 0 1628438528 [] [], .mk 6 6 0 [] [.mk 2 0 0 [113] [], .mk 1 0 4 [] []]]] [] []] [],
 .mk 2 [116] [.mk 1 0 4002 [] [], .mk 6 9 0 [] [.mk 2 0 0 [118] [], .mk 1 0 536870911 [] []]] [] [],
 .mk 1 [100] [.mk 6 5 0 [] [.mk 6 4 0 [] [.mk 2 0 0 [100] [], .mk 6 13 0 [] [.mk 2 0 0 [118] [], .mk 1 0 29 [] []]], .mk 1 0 2 [] []]] [] [],
 .mk 2 [116] [.mk 1 0 4003 [] [], .mk 6 4 0 [] [.mk 1 0 286261249 [] [], .mk 2 0 0 [100] []]] [] [],
 .mk 4 [] [.mk 6 15 0 [] [.mk 2 0 0 [99] [], .mk 1 0 35 [] []]] [.mk 2 [116] [.mk 1 0 4003 [] [], .mk 1 0 287375488 [] []] [] []] [],
 .mk 1 [105] [.mk 1 0 4000 [] []] [] [],
 .mk 1 [113] [.mk 6 4 0 [] [.mk 2 0 0 [113] [], .mk 1 0 1 [] []]] [] []]
def yL:List Sm:=IP++(.mk 1 [99] [.mk 5 0 0 [] []] [] []:: .mk 5 [] [.mk 6 14 0 [] [.mk 2 0 0 [99] [], .mk 1 0 256 [] []]] H7 []::(WE++[.mk 5 [] [.mk 7 0 0 [] [.mk 6 14 0 [] [.mk 2 0 0 [110] [], .mk 2 0 0 [113] []]]] (.mk 5 [] [.mk 6 14 0 [] [.mk 2 0 0 [105] [], .mk 1 0 4004 [] []]] Gx []::Ab) []]))
def qJ:Fu:=⟨[109,97,105,110],[],[],false,yL⟩
def fZ:Pg:=⟨[[99],[110],[111],[120],[115],[109],[118],[100],[105],[113]],[⟨[116],4096⟩],[qJ]⟩
theorem Wp.yes {cx:Cx} {rs:dC→Bool×Int} {st:RS} {P:RS→Prop} {l:List Sm} {s:dC} {e:Ex} {t:List Sm} {v:Int} (a:PV rs st e v) (b:v≠0) (h:Wp cx rs t st (fun f=>Wp cx rs l f P)):Wp cx rs (.mk 4 s [e] t []::l) st P:= .cond _ a (fun _=>h) (fun c=>absurd c b) fun _ h=>h
theorem Wp.no {cx:Cx} {rs:dC→Bool×Int} {st:RS} {P:RS→Prop} {l:List Sm} {s:dC} {e:Ex} {t:List Sm} {v:Int} (a:PV rs st e v) (b:v=0) (h:Wp cx rs l st P):Wp cx rs (.mk 4 s [e] t []::l) st P:= .cond (fun f=>Wp cx rs l f P) a (fun c=>absurd b c) (fun _=>h) fun _ h=>h
def BM:List (Nat×Int)→Nat→Int→Int
 |[],_,x=>x
 |(i,v)::L,j,x=>BM L j (if i=j then v else x)
def kL (L:List (Nat×Int)) (a:List Int):List Int:=L.foldl (fun a p=>a.set p.1 p.2) a
theorem Ii: ∀(L:List (Nat×Int)) (a:List Int),(kL L a).length=a.length
 |[],_=>rfl
 |p::L,a=>by show(kL L (a.set p.1 p.2)).length=_;rw[Ii L,dP]
theorem Ij: ∀(L:List (Nat×Int)) (a:List Int) (j:Nat) (x:Int),a[j]?=some x→(kL L a)[j]?=some (BM L j x)
 |[],_,_,_,h=>h
 |(i,v)::L,a,j,x,h=>by
  show(kL L (a.set i v))[j]?=_;rw[BM];refine Ij L _ j _ ?_;have b:=(bF.1 h).1;rw[hQ];by_cases c:i=j
  ·subst c;simp [b]
  simp [c,h]
theorem Yv: ∀(L:List (Nat×Int)) (j:Nat) (x:Int),(∀p∈L,p.1≠j)→BM L j x=x
 |[],_,_,_=>rfl
 |(i,v)::L,j,x,h=>by
  rw[BM,aL (h (i,v) (fK)),Yv L j x fun p a=>h p (eZ _ a)]
def HJ:List (Nat×Int):=[(3043,4),(3045,5),(3042,6),(3047,7),(3037,8),(3038,9),(3124,10),(3094,11),(3076,12),(3082,13),(3060,14),(3061,15),(3033,1326579712),(3063,1997537280),(3064,1343357056),(3035,420483072),(3046,941621248),(3032,1645215744),(3069,908066816),(3036,1509949440)]
structure AT (arr T:List Int):Prop where
 len:arr.length=4096
 tl:T.length≤2600
 eq: ∀j,j<T.length→arr[j]?=T[j]?
 z: ∀j,T.length≤j→j<3000→arr[j]?=some 0
 tab: ∀c:Nat,c<256→arr[3000+c]?=some (F9 c)
def P1:List Int:=kL HJ (List.replicate 4096 0)
theorem PP:AT P1 []:=by
 have b: ∀j,j<4096→(List.replicate 4096 (0:Int))[j]?=some 0:=fun j a=>by rw[qW,bH a]
 refine⟨by rw[P1,Ii,fJ],by simp,fun j a=>by simp at a,fun j _ a=>?_,fun c e=>?_⟩
 ·rw[P1,Ij HJ _ j 0 (b j (by omega)),Yv]
  intro p f;have : ∀p∈HJ,3000≤p.1:=by decide
  have:=this p f;omega
 rw[P1,Ij HJ _ _ 0 (b _ (by omega))];have : ∀c:Nat,c<256→BM HJ (3000+c) 0=F9 c:=by decide+kernel
 rw[this c e]
theorem AT.push {arr T:List Int} (h:AT arr T) (k:T.length<2600) (c:Int):AT (arr.set T.length c) (T++[c]):=by
 have p:=h.len;refine⟨by rw[dP,h.len],by rw[aH,bV];omega,fun j g=>?_,fun j a b=>?_,fun c f=>?_⟩
 ·rw[aH,bV]at g
  rw[hQ];by_cases e:T.length=j
  ·subst e;simp;omega
  rw[aL e,h.eq j (by omega),iE (by omega)]
 ·rw[aH,bV]at a
  rw[hQ,aL (by omega),h.z j (by omega) b]
 rw[hQ,aL (by omega),h.tab c f]
theorem AT.set {arr T:List Int} (h:AT arr T) {o:Nat} (p:o<T.length) (v:Int):AT (arr.set o v) (T.set o v):=by
 have k:=h.len;have t:=h.tl;refine⟨by rw[dP,h.len],by rw[dP];exact h.tl,fun j a=>?_,fun j b f=>?_,fun c g=>?_⟩
 ·rw[dP]at a
  rw[hQ,hQ];by_cases e:o=j
  ·subst e;simp [a];omega
  rw[aL e,aL e,h.eq j a]
 ·rw[dP]at b
  rw[hQ,aL (by omega),h.z j b f]
 rw[hQ,aL (by omega),h.tab c g]
theorem IN {cx:Cx} {rs:dC→Bool×Int} (H:oU rs) {P:RS→Prop} {l:List Sm} {c n o x s m v d i q:Int} {rd:Nat} {out:dC} {tk:Nat} (h:Wp cx rs l (jW c n o x s m v d i q P1 rd out tk) P):Wp cx rs (IP++l) (jW c n o x s m v d i q (List.replicate 4096 0) rd out tk) P:=by
 unfold IP;simp only[dM,cQ];have a: ∀(L:List (Nat×Int)) (j:Nat),j<4096→j<(kL L (List.replicate 4096 0)).length:=fun L j b=>by rw[Ii,fJ];exact b
 refine H.st (arr:=kL [] (List.replicate 4096 0)) .num .num (by exact a _ 3043 (by decide)) ?_;show Wp cx rs _ (jW c n o x s m v d i q (kL [(3043,4)] (List.replicate 4096 0)) rd out tk) P;refine H.st (arr:=kL [(3043,4)] (List.replicate 4096 0)) .num .num (by exact a _ 3045 (by decide)) ?_;show Wp cx rs _ (jW c n o x s m v d i q (kL [(3043,4),(3045,5)] (List.replicate 4096 0)) rd out tk) P;refine H.st (arr:=kL [(3043,4),(3045,5)] (List.replicate 4096 0)) .num .num (by exact a _ 3042 (by decide)) ?_;show Wp cx rs _ (jW c n o x s m v d i q (kL [(3043,4),(3045,5),(3042,6)] (List.replicate 4096 0)) rd out tk) P;refine H.st (arr:=kL [(3043,4),(3045,5),(3042,6)] (List.replicate 4096 0)) .num .num (by exact a _ 3047 (by decide)) ?_;show Wp cx rs _ (jW c n o x s m v d i q (kL [(3043,4),(3045,5),(3042,6),(3047,7)] (List.replicate 4096 0)) rd out tk) P;refine H.st (arr:=kL [(3043,4),(3045,5),(3042,6),(3047,7)] (List.replicate 4096 0)) .num .num (by exact a _ 3037 (by decide)) ?_;show Wp cx rs _ (jW c n o x s m v d i q (kL [(3043,4),(3045,5),(3042,6),(3047,7),(3037,8)] (List.replicate 4096 0)) rd out tk) P;refine H.st (arr:=kL [(3043,4),(3045,5),(3042,6),(3047,7),(3037,8)] (List.replicate 4096 0)) .num .num (by exact a _ 3038 (by decide)) ?_;show Wp cx rs _ (jW c n o x s m v d i q (kL [(3043,4),(3045,5),(3042,6),(3047,7),(3037,8),(3038,9)] (List.replicate 4096 0)) rd out tk) P;refine H.st (arr:=kL [(3043,4),(3045,5),(3042,6),(3047,7),(3037,8),(3038,9)] (List.replicate 4096 0)) .num .num (by exact a _ 3124 (by decide)) ?_;show Wp cx rs _ (jW c n o x s m v d i q (kL [(3043,4),(3045,5),(3042,6),(3047,7),(3037,8),(3038,9),(3124,10)] (List.replicate 4096 0)) rd out tk) P;refine H.st (arr:=kL [(3043,4),(3045,5),(3042,6),(3047,7),(3037,8),(3038,9),(3124,10)] (List.replicate 4096 0)) .num .num (by exact a _ 3094 (by decide)) ?_;show Wp cx rs _ (jW c n o x s m v d i q (kL [(3043,4),(3045,5),(3042,6),(3047,7),(3037,8),(3038,9),(3124,10),(3094,11)] (List.replicate 4096 0)) rd out tk) P;refine H.st (arr:=kL [(3043,4),(3045,5),(3042,6),(3047,7),(3037,8),(3038,9),(3124,10),(3094,11)] (List.replicate 4096 0)) .num .num (by exact a _ 3076 (by decide)) ?_;show Wp cx rs _ (jW c n o x s m v d i q (kL [(3043,4),(3045,5),(3042,6),(3047,7),(3037,8),(3038,9),(3124,10),(3094,11),(3076,12)] (List.replicate 4096 0)) rd out tk) P;refine H.st (arr:=kL [(3043,4),(3045,5),(3042,6),(3047,7),(3037,8),(3038,9),(3124,10),(3094,11),(3076,12)] (List.replicate 4096 0)) .num .num (by exact a _ 3082 (by decide)) ?_;show Wp cx rs _ (jW c n o x s m v d i q (kL [(3043,4),(3045,5),(3042,6),(3047,7),(3037,8),(3038,9),(3124,10),(3094,11),(3076,12),(3082,13)] (List.replicate 4096 0)) rd out tk) P;refine H.st (arr:=kL [(3043,4),(3045,5),(3042,6),(3047,7),(3037,8),(3038,9),(3124,10),(3094,11),(3076,12),(3082,13)] (List.replicate 4096 0)) .num .num (by exact a _ 3060 (by decide)) ?_;show Wp cx rs _ (jW c n o x s m v d i q (kL [(3043,4),(3045,5),(3042,6),(3047,7),(3037,8),(3038,9),(3124,10),(3094,11),(3076,12),(3082,13),(3060,14)] (List.replicate 4096 0)) rd out tk) P;refine H.st (arr:=kL [(3043,4),(3045,5),(3042,6),(3047,7),(3037,8),(3038,9),(3124,10),(3094,11),(3076,12),(3082,13),(3060,14)] (List.replicate 4096 0)) .num .num (by exact a _ 3061 (by decide)) ?_;show Wp cx rs _ (jW c n o x s m v d i q (kL [(3043,4),(3045,5),(3042,6),(3047,7),(3037,8),(3038,9),(3124,10),(3094,11),(3076,12),(3082,13),(3060,14),(3061,15)] (List.replicate 4096 0)) rd out tk) P;refine H.st (arr:=kL [(3043,4),(3045,5),(3042,6),(3047,7),(3037,8),(3038,9),(3124,10),(3094,11),(3076,12),(3082,13),(3060,14),(3061,15)] (List.replicate 4096 0)) .num .num (by exact a _ 3033 (by decide)) ?_;show Wp cx rs _ (jW c n o x s m v d i q (kL [(3043,4),(3045,5),(3042,6),(3047,7),(3037,8),(3038,9),(3124,10),(3094,11),(3076,12),(3082,13),(3060,14),(3061,15),(3033,1326579712)] (List.replicate 4096 0)) rd out tk) P;refine H.st (arr:=kL [(3043,4),(3045,5),(3042,6),(3047,7),(3037,8),(3038,9),(3124,10),(3094,11),(3076,12),(3082,13),(3060,14),(3061,15),(3033,1326579712)] (List.replicate 4096 0)) .num .num (by exact a _ 3063 (by decide)) ?_;show Wp cx rs _ (jW c n o x s m v d i q (kL [(3043,4),(3045,5),(3042,6),(3047,7),(3037,8),(3038,9),(3124,10),(3094,11),(3076,12),(3082,13),(3060,14),(3061,15),(3033,1326579712),(3063,1997537280)] (List.replicate 4096 0)) rd out tk) P;refine H.st (arr:=kL [(3043,4),(3045,5),(3042,6),(3047,7),(3037,8),(3038,9),(3124,10),(3094,11),(3076,12),(3082,13),(3060,14),(3061,15),(3033,1326579712),(3063,1997537280)] (List.replicate 4096 0)) .num .num (by exact a _ 3064 (by decide)) ?_;show Wp cx rs _ (jW c n o x s m v d i q (kL [(3043,4),(3045,5),(3042,6),(3047,7),(3037,8),(3038,9),(3124,10),(3094,11),(3076,12),(3082,13),(3060,14),(3061,15),(3033,1326579712),(3063,1997537280),(3064,1343357056)] (List.replicate 4096 0)) rd out tk) P;refine H.st (arr:=kL [(3043,4),(3045,5),(3042,6),(3047,7),(3037,8),(3038,9),(3124,10),(3094,11),(3076,12),(3082,13),(3060,14),(3061,15),(3033,1326579712),(3063,1997537280),(3064,1343357056)] (List.replicate 4096 0)) .num .num (by exact a _ 3035 (by decide)) ?_;show Wp cx rs _ (jW c n o x s m v d i q (kL [(3043,4),(3045,5),(3042,6),(3047,7),(3037,8),(3038,9),(3124,10),(3094,11),(3076,12),(3082,13),(3060,14),(3061,15),(3033,1326579712),(3063,1997537280),(3064,1343357056),(3035,420483072)] (List.replicate 4096 0)) rd out tk) P;refine H.st (arr:=kL [(3043,4),(3045,5),(3042,6),(3047,7),(3037,8),(3038,9),(3124,10),(3094,11),(3076,12),(3082,13),(3060,14),(3061,15),(3033,1326579712),(3063,1997537280),(3064,1343357056),(3035,420483072)] (List.replicate 4096 0)) .num .num (by exact a _ 3046 (by decide)) ?_;show Wp cx rs _ (jW c n o x s m v d i q (kL [(3043,4),(3045,5),(3042,6),(3047,7),(3037,8),(3038,9),(3124,10),(3094,11),(3076,12),(3082,13),(3060,14),(3061,15),(3033,1326579712),(3063,1997537280),(3064,1343357056),(3035,420483072),(3046,941621248)] (List.replicate 4096 0)) rd out tk) P;refine H.st (arr:=kL [(3043,4),(3045,5),(3042,6),(3047,7),(3037,8),(3038,9),(3124,10),(3094,11),(3076,12),(3082,13),(3060,14),(3061,15),(3033,1326579712),(3063,1997537280),(3064,1343357056),(3035,420483072),(3046,941621248)] (List.replicate 4096 0)) .num .num (by exact a _ 3032 (by decide)) ?_;show Wp cx rs _ (jW c n o x s m v d i q (kL [(3043,4),(3045,5),(3042,6),(3047,7),(3037,8),(3038,9),(3124,10),(3094,11),(3076,12),(3082,13),(3060,14),(3061,15),(3033,1326579712),(3063,1997537280),(3064,1343357056),(3035,420483072),(3046,941621248),(3032,1645215744)] (List.replicate 4096 0)) rd out tk) P;refine H.st (arr:=kL [(3043,4),(3045,5),(3042,6),(3047,7),(3037,8),(3038,9),(3124,10),(3094,11),(3076,12),(3082,13),(3060,14),(3061,15),(3033,1326579712),(3063,1997537280),(3064,1343357056),(3035,420483072),(3046,941621248),(3032,1645215744)] (List.replicate 4096 0)) .num .num (by exact a _ 3069 (by decide)) ?_;show Wp cx rs _ (jW c n o x s m v d i q (kL [(3043,4),(3045,5),(3042,6),(3047,7),(3037,8),(3038,9),(3124,10),(3094,11),(3076,12),(3082,13),(3060,14),(3061,15),(3033,1326579712),(3063,1997537280),(3064,1343357056),(3035,420483072),(3046,941621248),(3032,1645215744),(3069,908066816)] (List.replicate 4096 0)) rd out tk) P;refine H.st (arr:=kL [(3043,4),(3045,5),(3042,6),(3047,7),(3037,8),(3038,9),(3124,10),(3094,11),(3076,12),(3082,13),(3060,14),(3061,15),(3033,1326579712),(3063,1997537280),(3064,1343357056),(3035,420483072),(3046,941621248),(3032,1645215744),(3069,908066816)] (List.replicate 4096 0)) .num .num (by exact a _ 3036 (by decide)) ?_;show Wp cx rs _ (jW c n o x s m v d i q (kL [(3043,4),(3045,5),(3042,6),(3047,7),(3037,8),(3038,9),(3124,10),(3094,11),(3076,12),(3082,13),(3060,14),(3061,15),(3033,1326579712),(3063,1997537280),(3064,1343357056),(3035,420483072),(3046,941621248),(3032,1645215744),(3069,908066816),(3036,1509949440)] (List.replicate 4096 0)) rd out tk) P;exact h
theorem ZM: ∀c:Nat,c<256→((gS (gS ((c:Int)- 68) *gS ((c:Int)- 73))=0)↔c=68∨c=73):=by decide+kernel
theorem ZL (c:Nat) (h:c<256):(gS ((c:Int)- 69)<2)↔c=69∨c=70:=by
 show IntKind.wrap .u32 _<2↔_;rw[IntKind.wrap_u32];omega
def PL (t:dC) (k:Nat):Int:=match t[k]? with
 |some c=>(c.toNat:Int)
 |none=>256
theorem OT {cx:Cx} {t:dC} (a:cx.inp=t) {c n o x s m v d i q:Int} {arr:List Int} {rd:Nat} {out:dC} {tk:Nat}:zI cx (jW c n o x s m v d i q arr rd out tk)= .val (PL t rd) (jW c n o x s m v d i q arr (if rd<t.length then rd+1 else rd) out tk):=by
 unfold zI PL;rw[a];show(match t[rd]? with |some c=>_|none=>_)=_;by_cases h:rd<t.length
 ·rw[aF h,bH h];rfl
 rw[dS (by omega),aL h]
theorem Vw (c:UInt8):c.toNat<256:=c.toNat_lt
theorem Q7 {c:UInt8} {k:Nat} (a:k<256):c.toNat=k↔c=UInt8.ofNat k:=by
 constructor
 ·intro h;rw[←h];simp
 intro h;rw[h,UInt8.toNat_ofNat'];omega
theorem VY {cx:Cx} {rs:dC→Bool×Int} (H:oU rs) {t:dC} (a:cx.inp=t) {P:RS→Prop} {l:List Sm} {c n o x s m v d i q:Int} {arr:List Int} {rd:Nat} {out:dC} {tk:Nat} (h:Wp cx rs l (jW (PL t rd) n o x s m v d i q arr (if rd<t.length then rd+1 else rd) out tk) P):Wp cx rs (.mk 1 [99] [.mk 5 0 0 [] []] [] []::l) (jW c n o x s m v d i q arr rd out tk) P:=
 .get (OT a) H.c (by decide) (by show(0:Int).toNat<10;decide) h
theorem IL {cx:Cx} {rs:dC→Bool×Int} (H:oU rs) {t:dC} (R:cx.inp=t) (hN:t.length≤2500) (hf:t.length+2<cx.fuel) {P:RS→Prop} {l:List Sm} {T:List Int} {o':Int} (J:yE t ([],0)=some (T,o'))
  (h: ∀o x arr,AT arr T→Wp cx rs l (jW 256 t.length o x 0 0 0 0 0 0 arr t.length [] (t.length+1)) P):
  Wp cx rs (.mk 1 [99] [.mk 5 0 0 [] []] [] []:: .mk 5 [] [.mk 6 14 0 [] [.mk 2 0 0 [99] [], .mk 1 0 256 [] []]] H7 []::l) (jW 0 0 0 0 0 0 0 0 0 0 P1 0 [] 0) P:=by
 refine VY H R ?_;refine Wp.loop (fun k st=> ∃g ok x arr,yE (t.take k) ([],0)=some (g,ok)∧AT arr g∧st=jW (PL t k) (k:Int) ok x 0 0 0 0 0 0 arr (if k<t.length then k+1 else k) [] (k+1)) t.length (by show 0<cx.fuel;omega) ⟨[],0,0,P1,by simp [yE],PP,rfl⟩ ?_ ?_
 rotate_left
 ·rintro _ ⟨g,ok,x,arr,p,X,rfl⟩
  rw[dD,J]at p;simp only[Option.some.injEq,Prod.mk.injEq]at p;obtain⟨rfl,rfl⟩:=p;have W:PL t t.length=256:=by unfold PL;rw[dS (bI _)]
  rw[W,aL (PZ _)];exact⟨(.op H.vc .num (Ea _ _)),h _ _ _ X⟩
 rintro k _ S ⟨g,ok,x,arr,p,A,rfl⟩;rw[bH S];obtain⟨c,G⟩: ∃c,t[k]?=some c:=⟨_,aF S⟩;have O:PL t k=(c.toNat:Int):=by unfold PL;rw[G]
 have Q:=Vw c
 obtain⟨u,D,f⟩: ∃u D,U8 c (g,ok)=some (u,D):=by
  have e:t=t.take k++(c::t.drop (k+1)):=by
   rw[bF]at G;obtain⟨_,rfl⟩:=G;rw[List.getElem_cons_drop,mB]
  rw[e,lY,p]at J;simp only[cA,yE,cV]at J;obtain⟨⟨a,b⟩,Z,_⟩:=J;exact⟨a,b,Z⟩
 have a1:yE (t.take (k+1)) ([],0)=some (u,D):=by
  rw[List.take_add_one,G,Option.toList_some,lY,p];simp only[cA,yE,f]
 have B:g.length=k:=by
  have:=U7 p;rw[dU]at this;simp at this;omega
 have a2:=A.len;refine⟨_,(.op H.vc .num (Ea _ _)),by rw[O,bH (by omega)];decide, ?_⟩;rw[O]
 have C: ∀x E,AT E u→Wp cx rs [.mk 1 [110] [.mk 6 4 0 [] [.mk 2 0 0 [110] [], .mk 1 0 1 [] []]] [] [], .mk 1 [99] [.mk 5 0 0 [] []] [] []] (jW c.toNat k D x 0 0 0 0 0 0 E (k+1) [] (k+1)) (fun V=>V.ticks<cx.fuel∧ ∃g ok x arr,yE (t.take (k+1)) ([],0)=some (g,ok)∧AT arr g∧V.tick=jW (PL t (k+1)) ((k+1:Nat):Int) ok x 0 0 0 0 0 0 arr (if k+1<t.length then k+1+1 else k+1) [] (k+1+1)):=by
  intro x E Y;refine H.wn (.op H.vn .num (P3 _ _)) ?_;rw[eP (by omega)];refine VY H R (.nil ⟨by show k+1<cx.fuel;omega,u,D,x,E,a1,Y, ?_⟩);rfl
 unfold H7;have I:((k:Int)).toNat=k:=by simp
 refine H.st H.vn H.vc (by rw[I];omega) ?_;rw[I];unfold U8 at f;simp only at f;have K:(c=68∨c=73)↔(c.toNat=68∨c.toNat=73):=by rw[Q7 (by decide),Q7 (by decide)];rfl
 have M:(c=69∨c=70)↔(c.toNat=69∨c.toNat=70):=by rw[Q7 (by decide),Q7 (by decide)];rfl
 have N:=ZM c.toNat Q;have L:=ZL c.toNat Q;by_cases z:c=68∨c=73
 ·rw[bH z]at f
  simp only[Option.some.injEq,Prod.mk.injEq]at f;obtain⟨rfl,rfl⟩:=f;refine .yes (.op (.op (.op H.vc .num (LW _ _)) (.op H.vc .num (LW _ _)) (UU _ _)) .num (Uw _ _)) (by rw[bH (N.2 (K.1 z))];decide) ?_;refine H.st H.vn H.vo (by rw[I,dP];omega) ?_;refine H.wo H.vn (.nil ?_);refine .no (.op (.op H.vc .num (LW _ _)) .num (Ea _ _)) (by rw[aL (fun e=>by have:=L.1 e;have:=K.1 z;omega)]) ?_;rw[I,List.set_set];have j:=A.push (by omega) ok;rw[B]at j;rw[B]at C;exact C _ _ j
 rw[aL z]at f;refine .no (.op (.op (.op H.vc .num (LW _ _)) (.op H.vc .num (LW _ _)) (UU _ _)) .num (Uw _ _)) (by rw[aL (fun e=>z (K.2 (N.1 e)))]) ?_;by_cases F:c=69∨c=70
 ·rw[bH F]at f
  split at f
  ·rename_i h0
   split at f
   ·rename_i y U
    simp only[Option.some.injEq,Prod.mk.injEq]at f;obtain⟨rfl,rfl⟩:=f;have a0:=(bF.1 U).1;refine .yes (.op (.op H.vc .num (LW _ _)) .num (Ea _ _)) (by rw[bH (L.2 (M.1 F))];decide) ?_;refine H.wx (H.it H.vo (by rw[hQ,aL (by omega),A.eq _ a0,U])) ?_;refine H.st H.vo (.op .num (.op H.vn .num (UU _ _)) (P3 _ _)) (by rw[dP];omega) ?_;refine H.wo H.vx (.nil ?_);rw[eP (x:=(k:Int) *4) (by omega),eP (by omega),show(857735172+(k:Int) *4)=857735172+4 *(g.length:Int)by omega];have j:=A.push (by omega) (c.toNat:Int);rw[B]at j⊢;rw[B]at C;exact C _ _ (j.set (by rw[aH];omega) _)
   cases f
  cases f
 rw[aL F]at f;simp only[Option.some.injEq,Prod.mk.injEq]at f;obtain⟨rfl,rfl⟩:=f;refine .no (.op (.op H.vc .num (LW _ _)) .num (Ea _ _)) (by rw[aL (fun e=>F (M.2 (L.1 e)))]) ?_;have j:=A.push (by omega) (c.toNat:Int);rw[B]at j;exact C _ _ j
theorem OL {p:Prop} [Decidable p] {a b:Int} (e:0≤a∧a<4294967296) (f:0≤b∧b<4294967296):0≤(if p then a else b)∧(if p then a else b)<4294967296:=by
 split
 ·exact e
 exact f
theorem TA (c:Int):0≤F9 c∧F9 c<4294967296:=by
 unfold F9
 repeat (first|refine OL (by decide) ?_|decide)
theorem MB {c:Int} (h:0≤c∧c<4294967296):0≤Gp c∧Gp c<4294967296:=by
 unfold Gp;split
 ·exact TA c
 exact h
theorem MA {c:Int} (h:0≤c∧c<4294967296):0≤Bl c∧Bl c<4294967296:=by
 unfold Bl;split
 ·decide
 exact MB h
theorem LZ {c:Int} (h:0≤c∧c<4294967296):0≤uZ c∧uZ c<4294967296:=by
 unfold uZ;split
 ·exact Ll _
 exact MA h
theorem QD {c:Int} {z:Zs} (h:0≤z.m∧z.m<4294967296):0≤Vk c z∧Vk c z<4294967296:=by
 unfold Vk;split
 ·exact Ll _
 exact h
theorem VI {c:Int} {z:Zs} (h:0≤z.m∧z.m<4294967296):0≤Nc c z∧Nc c z<4294967296:=by
 unfold Nc;split
 ·decide
 exact QD h
theorem VH {c:Int} {z:Zs} (h:0≤c∧c<4294967296):0≤Q3 c z∧Q3 c z<4294967296:=by
 unfold Q3;split
 ·exact Ll _
 exact LZ h
theorem VG {c:Int} {z:Zs} (h:0≤c∧c<4294967296):0≤C6 c z∧C6 c z<4294967296:=by
 unfold C6;split
 ·exact Ll _
 exact VH h
theorem VF {q c:Int} {z:Zs} (h:0≤c∧c<4294967296):0≤Nb q c z∧Nb q c z<4294967296:=by
 unfold Nb;split
 ·exact Ll _
 exact VG h
def PW (arr pend:List Int):Prop:= ∀j,j<pend.length→arr[4004 -pend.length+j]?=pend[j]?
section
variable {cx : Cx} {rs : dC → Bool × Int} {P : RS → Prop} {l : List Sm} {c n o x s m v d i q : Int} {arr : List Int} {rd : Nat} {out : dC} {tk : Nat}
theorem oU.put {e:Ex} {w:Int} (b:PV rs (jW c n o x s m v d i q arr rd out tk) e w) (a:out.length<65536) (h:Wp cx rs l (jW c n o x s m v d i q arr rd (out++[UInt8.ofNat (w % 256).toNat]) tk) P):Wp cx rs (.mk 3 [] [e] [] []::l) (jW c n o x s m v d i q arr rd out tk) P:=by
 refine .put b a ?_;rw[IntKind.wrap_u8];exact h
theorem Z5 (H:oU rs) {a:List Int} (z:a.length≤4) (p:PW arr a) (y:out.length≤60000) (u:tk+1+a.length<cx.fuel)
  (h: ∀x,Wp cx rs l (jW c n o x s m v d 4004 q arr rd (out++vI a) (tk+1+a.length)) P):Wp cx rs (.mk 5 [] [.mk 6 14 0 [] [.mk 2 0 0 [105] [], .mk 1 0 4004 [] []]] Gx []::l) (jW c n o x s m v d (4004 -(a.length:Int)) q arr rd out tk) P:=by
 refine Wp.loop (fun j st=> ∃x,st=jW c n o x s m v d (4004 -(a.length:Int)+(j:Int)) q arr rd (out++vI (a.take j)) (tk+1+j)) a.length (by show tk<cx.fuel;omega) ⟨x,by rw[kB,show vI []=[]from rfl,dZ,show(4004 -(a.length:Int)+((0:Nat):Int))=4004 -(a.length:Int)by omega];rfl⟩ ?_ ?_
 rotate_left
 ·rintro _ ⟨x,rfl⟩
  refine⟨(by have e:PV rs (jW c n o x s m v d (4004 -(a.length:Int)+(a.length:Int)) q arr rd (out++vI (a.take a.length)) (tk+1+a.length)) (.mk 6 14 0 [] [.mk 2 0 0 [105] [], .mk 1 0 4004 [] []]) _:=(.op H.vi .num (Ea _ _));rw[aL (by omega)]at e;exact e), ?_⟩;rw[dD,show(4004 -(a.length:Int)+(a.length:Int))=4004 by omega];exact h x
 rintro j _ b ⟨x,rfl⟩;refine⟨_,(.op H.vi .num (Ea _ _)),by rw[bH (by omega)];decide, ?_⟩;have t:(vI (a.take j)).length≤16:=by rw[He,dU];omega
 have g:=aF b;have k:a.take (j+1)=a.take j++[a[j]]:=cL b;have f:=p j b;rw[g]at f;generalize a[j]=w at *;unfold Gx;refine H.wx (H.it H.vi (by rw[show(4004 -(a.length:Int)+(j:Int)).toNat=4004 -a.length+j by omega];exact f)) ?_;refine oU.put H.vx (by rw[aH];omega) ?_;refine oU.put (.op H.vx .num (UV _)) (by simp only[aH,aQ,aV];omega) ?_;refine oU.put (.op H.vx .num (X4 _)) (by simp only[aH,aQ,aV];omega) ?_;refine oU.put (.op H.vx .num (PS _)) (by simp only[aH,aQ,aV];omega) ?_;refine H.wi (.op H.vi .num (P3 _ _)) (.nil ⟨by show tk+1+j<cx.fuel;omega,w, ?_⟩);rw[eP (by omega),k,Uo];simp only[vI,UL,dZ,bU,dM,cQ];rw[show(4004 -(a.length:Int)+(j:Int)+1)=4004 -(a.length:Int)+((j+1:Nat):Int)by omega];rfl
theorem gX {a:List Int} {i j:Nat} {v:Int} (h:i<a.length):(a.set i v)[j]?=if i=j then some v else a[j]?:=by
 rw[hQ];by_cases e:i=j
 ·rw[bH e,bH e,bH (e▸h)]
 rw[aL e,aL e]
structure OB (a0 arr:List Int) (w:List Int):Prop where
 len:arr.length=4096
 low: ∀j,j<4000→arr[j]?=a0[j]?
 w: ∀j,j<w.length→arr[4000+j]?=w[j]?
theorem OB.push {b arr w:List Int} (h:OB b arr w) (p:w.length<4) {k:Nat} (f:k=4000+w.length) (x:Int):OB b (arr.set k x) (w++[x]):=by
 have g:=h.len;subst f;refine⟨by rw[dP];exact h.len,fun j a=>?_,fun j a=>?_⟩
 ·rw[gX (by omega),aL (by omega)];exact h.low j a
 rw[aH,bV]at a;rw[gX (by omega)];by_cases e:w.length=j
 ·subst e;simp
 rw[aL (by omega),iE (by omega)];exact h.w j (by omega)
theorem OB.turn {b arr w:List Int} {y:Int} (h:OB b arr (w++[y])) (p:w.length<4) {k:Nat} (f:k=4000+w.length) (x:Int):OB b (arr.set k x) (w++[x]):=by
 have g:=h.len;subst f;refine⟨by rw[dP];exact h.len,fun j a=>?_,fun j a=>?_⟩
 ·rw[gX (by omega),aL (by omega)];exact h.low j a
 rw[aH,bV]at a;rw[gX (by omega)];by_cases e:w.length=j
 ·subst e;simp
 have:=h.w j (by rw[aH,bV];omega);rw[aL (by omega),this,iE (by omega),iE (by omega)]
theorem H8 (H:oU rs) {I:Int} {z:Zs} (O:arr.length=4096) (u:0≤c∧c<4294967296) (M:arr[q.toNat]?=some c) (R: ∀k:Nat,k<256→arr[3000+k]?=some (F9 k)) (Q:0≤z.m∧z.m<4294967296)
  (h: ∀v D,OB arr D (vT q c z)→Wp cx rs l (jW c n o x (C7 c z) (Nc c z) v (zd q c z) 4000 (gS (q+1)) D rd out tk) P):Wp cx rs (Ab++l) (jW I n o x z.s z.m v z.d i q arr rd out tk) P:=by
 unfold Ab;simp only[dM,cQ];refine H.wc (H.it H.vq M) ?_;refine H.wv H.vc ?_;refine .cond (fun g=>g=jW c n o x z.s z.m (Gp c) z.d i q arr rd out tk) (.op H.vc .num (Ea _ _)) (fun a=>?_) (fun a=>?_) ?_
 ·have b:c<256:=by by_cases e:c<256;exact e;rw[aL e]at a;exact absurd rfl a
  have F:=R c.toNat (by omega);have J:gS (c+3000)=c+3000:=eP (by omega);have K:((c.toNat:Nat):Int)=c:=by omega
  rw[K]at F;refine H.wv (H.it (.op H.vc .num (P3 _ _)) (by rw[J,show(c+3000).toNat=3000+c.toNat by omega];exact F)) (.nil ?_);rw[Gp,bH b]
 ·have b: ¬c<256:=fun e=>by rw[bH e]at a;exact absurd a (by decide)
  rw[Gp,aL b]
 rintro _ rfl;have T:=MB u;refine .cond (fun g=>g=jW c n o x z.s z.m (Bl c) z.d i q arr rd out tk) (.op H.vv .num (Uw _ _)) (fun a=>?_) (fun a=>?_) ?_
 ·have b:Gp c=0:=by by_cases e:Gp c=0;exact e;rw[aL e]at a;exact absurd rfl a
  refine H.wv .num (.nil ?_);rw[Bl,bH b]
 ·have b: ¬Gp c=0:=fun e=>by rw[bH e]at a;exact absurd a (by decide)
  rw[Bl,aL b]
 rintro _ rfl;have U:=MA u;refine .cond (fun g=>g=jW c n o x z.s z.m (uZ c) z.d i q arr rd out tk) (.op H.vv .num (Ea _ _)) (fun a=>?_) (fun a=>?_) ?_
 ·have b:Bl c<16:=by by_cases e:Bl c<16;exact e;rw[aL e]at a;exact absurd rfl a
  refine H.wv (.op (.op H.vv .num (UU _ _)) .num (P3 _ _)) (.nil ?_);rw[uZ,bH b]
 ·have b: ¬Bl c<16:=fun e=>by rw[bH e]at a;exact absurd a (by decide)
  rw[uZ,aL b]
 rintro _ rfl;have V:=LZ u;have L:(4000:Int).toNat=4000:=rfl;have B:(4001:Int).toNat=4001:=rfl;have E:(4002:Int).toNat=4002:=rfl;have C:(4003:Int).toNat=4003:=rfl;refine H.st .num (.op .num H.vd (P3 _ _)) (by rw[L];omega) ?_;refine H.st .num (.op .num H.vd (P3 _ _)) (by rw[B,dP];omega) ?_;have f:OB arr ((arr.set (4000:Int).toNat (gS (270532609+z.d))).set (4001:Int).toNat (gS (269484032+z.d))) [gS (270532609+z.d),gS (269484032+z.d)]:=((⟨O,fun _ _=>rfl,fun j N=>by simp at N⟩:OB arr arr []).push (by simp) rfl _).push (by simp) rfl _;generalize(arr.set (4000:Int).toNat (gS (270532609+z.d))).set (4001:Int).toNat (gS (269484032+z.d))=y at *;refine .cond (fun g=>g=jW c n o x z.s (Vk c z) (uZ c) z.d i q y rd out tk) (.op (.op H.vc .num (LW _ _)) .num (Ea _ _)) (fun a=>?_) (fun a=>?_) ?_
 ·have b:gS (c- 48)<10:=by by_cases e:gS (c- 48)<10;exact e;rw[aL e]at a;exact absurd rfl a
  refine H.wm (.op (.op H.vm .num (UU _ _)) (.op H.vc .num (LW _ _)) (P3 _ _)) (.nil ?_);rw[Vk,bH b]
 ·have b: ¬gS (c- 48)<10:=fun e=>by rw[bH e]at a;exact absurd a (by decide)
  rw[Vk,aL b]
 rintro _ rfl;have W:=QD (c:=c) Q;refine .cond (fun g=> ∃p,g=jW c n o x z.s (Nc c z) (Q3 c z) z.d i q p rd out tk∧OB arr p [gS (270532609+z.d),DN c z]) (.op H.vc .num (Uw _ _)) (fun a=>?_) (fun a=>?_) ?_
 ·have b:c=32:=by by_cases e:c=32;exact e;rw[aL e]at a;exact absurd rfl a
  refine H.st .num (.op .num (.op H.vm .num (UT (by omega))) (P3 _ _)) (by rw[B];have:=f.len;omega) ?_;refine H.wv (.op H.vv (.op H.vm .num (X4 _)) (P3 _ _)) ?_;refine H.wm .num (.nil ⟨y.set (4001:Int).toNat (gS (17825792+Vk c z % 65536)), ?_, ?_⟩)
  ·rw[Q3,Nc,bH b,bH b]
  rw[DN,bH b];exact OB.turn (w:=[gS (270532609+z.d)]) f (by simp) rfl _
 ·have b: ¬c=32:=fun e=>by rw[bH e]at a;exact absurd a (by decide)
  refine⟨y, ?_, ?_⟩
  ·rw[Q3,Nc,aL b,aL b]
  rw[DN,aL b];exact f
 rintro _ ⟨p,rfl,f⟩;refine .cond (fun g=>g=jW c n o x (DI c z) (Nc c z) (C6 c z) z.d i q p rd out tk) (.op (.op H.vc .num (LW _ _)) .num (Ea _ _)) (fun a=>?_) (fun a=>?_) ?_
 ·have b:gS (c- 97)<26:=by by_cases e:gS (c- 97)<26;exact e;rw[aL e]at a;exact absurd rfl a
  refine H.wv (.op H.vs H.vc (P3 _ _)) ?_;refine H.ws .num (.nil ?_);rw[C6,DI,bH b,bH b]
 ·have b: ¬gS (c- 97)<26:=fun e=>by rw[bH e]at a;exact absurd a (by decide)
  rw[C6,DI,aL b,aL b]
 rintro _ rfl;refine .cond (fun g=>g=jW c n o x (C7 c z) (Nc c z) (C6 c z) z.d i q p rd out tk) (.op H.vc .num (Uw _ _)) (fun a=>?_) (fun a=>?_) ?_
 ·have b:c=58:=by by_cases e:c=58;exact e;rw[aL e]at a;exact absurd rfl a
  refine H.ws .num (.nil ?_);rw[C7,bH b]
 ·have b: ¬c=58:=fun e=>by rw[bH e]at a;exact absurd a (by decide)
  rw[C7,aL b]
 rintro _ rfl;refine .cond (fun g=> ∃t,g=jW c n o x (C7 c z) (Nc c z) (C6 c z) z.d i q t rd out tk∧OB arr t [gS (270532609+z.d),X5 c z]) (.op H.vc .num (Uw _ _)) (fun a=>?_) (fun a=>?_) ?_
 ·have b:c=64:=by by_cases e:c=64;exact e;rw[aL e]at a;exact absurd rfl a
  refine H.st .num .num (by rw[B];have:=f.len;omega) (.nil ⟨_,rfl, ?_⟩);rw[X5,bH b];exact OB.turn (w:=[gS (270532609+z.d)]) f (by simp) rfl _
 ·have b: ¬c=64:=fun e=>by rw[bH e]at a;exact absurd a (by decide)
  refine⟨p,rfl, ?_⟩;rw[X5,aL b];exact f
 rintro _ ⟨t,rfl,f⟩;refine .cond (fun g=>g=jW c n o x (C7 c z) (Nc c z) (Nb q c z) z.d i q t rd out tk) (.op H.vc .num (Uw _ _)) (fun a=>?_) (fun a=>?_) ?_
 ·have b:c=87:=by by_cases e:c=87;exact e;rw[aL e]at a;exact absurd rfl a
  refine H.wv (.op .num (.op H.vq .num (UU _ _)) (P3 _ _)) (.nil ?_);rw[Nb,bH b]
 ·have b: ¬c=87:=fun e=>by rw[bH e]at a;exact absurd a (by decide)
  rw[Nb,aL b]
 rintro _ rfl;have X:=VF (q:=q) (z:=z) u;refine H.st .num (.op H.vv .num (US (by omega))) (by rw[E];have:=f.len;omega) ?_;have f:=f.push (by simp) (k:=4002) rfl (Nb q c z % 536870912);rw[E];refine H.wd (.op (.op H.vd (.op H.vv .num (PQ _)) (P3 _ _)) .num (LW _ _)) ?_;refine H.st .num (.op .num H.vd (P3 _ _)) (by rw[C];have:=f.len;omega) ?_;have f:=f.push (by simp) (k:=4003) rfl (gS (286261249+zd q c z));rw[C];have S:gS (gS (z.d+Nb q c z/536870912)- 2)=zd q c z:=rfl;rw[S];generalize((t.set 4002 (Nb q c z % 536870912)).set 4003 (gS (286261249+zd q c z)))=G at *;refine .cond (fun g=> ∃A,g=jW c n o x (C7 c z) (Nc c z) (Nb q c z) (zd q c z) i q A rd out tk∧OB arr A (vT q c z)) (.op H.vc .num (Uw _ _)) (fun a=>?_) (fun a=>?_) ?_
 ·have b:c=35:=by by_cases e:c=35;exact e;rw[aL e]at a;exact absurd rfl a
  refine H.st .num .num (by rw[C];have:=f.len;omega) (.nil ⟨_,rfl, ?_⟩);rw[vT,DL,bH b];exact OB.turn (w:=[gS (270532609+z.d),X5 c z,Nb q c z % 536870912]) f (by simp) rfl _
 ·have b: ¬c=35:=fun e=>by rw[bH e]at a;exact absurd a (by decide)
  refine⟨G,rfl, ?_⟩;rw[vT,DL,aL b];exact f
 rintro _ ⟨A,rfl,f⟩;refine H.wi .num ?_;refine H.wq (.op H.vq .num (P3 _ _)) ?_;exact h _ _ f
end
def Nu (T:List Int):List Int:=[1145390419,4 *(T.length:Int),4224]
def zK (T:List Int) (k:Nat):Zs×List Int:=iK ((T++[0]).take k) 0 QH
def MP (T:List Int) (k:Nat):List Int:=Nu T++(zK T k).2
theorem oU.go {a:dC→Bool×Int} (H:oU a) {c n o x s m v d i q:Int} {arr:List Int} {rd:Nat} {b:dC} {e:Nat} (h: ¬n<q):PV a (jW c n o x s m v d i q arr rd b e) (.mk 7 0 0 [] [.mk 6 14 0 [] [.mk 2 0 0 [110] [], .mk 2 0 0 [113] []]]) 1:= .neg (x:=0) (.op H.vn H.vq (by rw[Ea,aL h])) rfl
theorem oU.stop {a:dC→Bool×Int} (H:oU a) {c n o x s m v d i q:Int} {arr:List Int} {rd:Nat} {b:dC} {e:Nat} (h:n<q):PV a (jW c n o x s m v d i q arr rd b e) (.mk 7 0 0 [] [.mk 6 14 0 [] [.mk 2 0 0 [110] [], .mk 2 0 0 [113] []]]) 0:= .neg (x:=1) (.op H.vn H.vq (by rw[Ea,bH h])) rfl
theorem SK (T:List Int):zK T T.length=iK T 0 QH:=by unfold zK;rw[List.take_left'];rfl
theorem MO {T:List Int} {k:Nat} {c:Int} (h:(T++[0])[k]?=some c):zK T (k+1)=(Bw (k:Int) c (zK T k).1,(zK T k).2++vT (k:Int) c (zK T k).1):=by
 obtain⟨a,rfl⟩:=bF.1 h;unfold zK;rw[cL a,X6,dU,Nat.min_eq_left (by omega),bT]
def KI (T:List Int) (aR:List Int) (tk0:Nat) (k:Nat) (st:RS):Prop:= ∃c o x v pend out arr tk,pend.length≤4∧PW arr pend∧arr.length=4096∧(∀j,j<4000→arr[j]?=aR[j]?)∧out++vI pend=vI (MP T k)∧(k=T.length+1→out=vI (MP T T.length))∧tk≤tk0+1+6 *k∧(0≤(zK T k).1.m∧(zK T k).1.m<4294967296)∧
 st=jW c (T.length:Int) o x (zK T k).1.s (zK T k).1.m v (zK T k).1.d (4004 -(pend.length:Int)) (k:Int) arr T.length out tk
theorem IM {cx:Cx} {B:dC→Bool×Int} (H:oU B) {T f:List Int} (l:AT f T) (V:T.length≤2500) (I: ∀x∈T,0≤x∧x<4294967296) {st:RS} {tk0:Nat} (R:st.ticks=tk0) (W:tk0+6 *T.length+20<cx.fuel) (G:KI T f tk0 0 st.tick):
  Wp cx B [.mk 5 [] [.mk 7 0 0 [] [.mk 6 14 0 [] [.mk 2 0 0 [110] [], .mk 2 0 0 [113] []]]] (.mk 5 [] [.mk 6 14 0 [] [.mk 2 0 0 [105] [], .mk 1 0 4004 [] []]] Gx []::Ab) []] st (fun s=>s.out=vI (Yn T)∧s.ticks≤tk0+6 *T.length+20):=by
 refine Wp.loop (KI T f tk0) (T.length+1) (by omega) G ?_ ?_
 rotate_left
 ·rintro _ ⟨c,o,x,v,y,u,arr,i,_,_,_,_,_,F,S,_,rfl⟩
  refine⟨?_, .nil ⟨?_,by show i≤_;omega⟩⟩
  ·exact H.stop (by omega)
  show u=_;rw[F rfl];unfold MP;rw[SK];rfl
 rintro k _ X ⟨c,o,x,v,y,u,arr,i,N,O,L,g,A,_,Y,b,rfl⟩;refine⟨1,H.go (by omega),by decide, ?_⟩
 have M:u.length≤60000:=by
  have:=congrArg List.length A;rw[aH,He (MP T k)]at this;unfold MP at this;have e:(zK T k).2.length=4 *((T++[0]).take k).length:=by unfold zK;exact vV _ _ _
  rw[aH,e,dU,aH]at this;simp only[Nu,aQ,aV]at this;omega
 refine Z5 H N O M (by omega) fun Q=>?_;rw[A];have U: ∀j,j<4000→arr[j]?=f[j]?:=g;obtain⟨d,hd⟩: ∃d,(T++[0])[k]?=some d:=⟨_,aF (by rw[aH,bV];omega)⟩
 have K:0≤d∧d<4294967296:=by
  have b:=aZ hd;rw[eV,bD]at b;rcases b with h|h
  ·exact I d h
  omega
 have J:arr[(k:Int).toNat]?=some d:=by
  rw[cC,g k (by omega)];rcases pR k T.length with e|e
  ·rw[l.eq k e,←hd,iE e]
  obtain rfl:k=T.length:=by omega
  rw[l.z _ (bI _) (by omega),←hd];simp
 have p:=MO hd;rw[←dZ Ab];refine H8 H L K J (fun j a=>by rw[g _ (by omega)];exact l.tab j a) b fun P C t=> .nil ⟨by show i+1+y.length<cx.fuel;omega,d,o,Q,P,vT (k:Int) d (zK T k).1,vI (MP T k),C,i+1+y.length+1,by simp [vT], ?_,t.len,fun j a=>by rw[t.low j a,g j a], ?_,fun e=>?_,by omega, ?_, ?_⟩
 ·intro j a
  have n:(vT (k:Int) d (zK T k).1).length=4:=rfl;rw[n];exact t.w j a
 ·unfold MP
  rw[p,←bU,Uo (Nu T++(zK T k).2)]
 ·rw[show k=T.length by omega]
 ·rw[p]
  exact VI b
 have n:(vT (k:Int) d (zK T k).1).length=4:=rfl;have D:gS ((k:Int)+1)=((k+1:Nat):Int):=by rw[eP (by omega)];omega
 have E:(4004 -((4:Nat):Int))=4000:=rfl;rw[n,E,D,p];rfl
theorem NB {cx:Cx} {g:dC→Bool×Int} (H:oU g) {t:dC} (A:cx.inp=t) (y:t.length≤2500) (F:7 *t.length+50<cx.fuel) {T:List Int} {E:Int} (f:yE t ([],0)=some (T,E)) (z: ∀x∈T,0≤x∧x<4294967296):
  Wp cx g yL (jW 0 0 0 0 0 0 0 0 0 0 (List.replicate 4096 0) 0 [] 0) (fun s=>s.out=vI (Yn T)∧s.ticks≤7 *t.length+50):=by
 have c:T.length=t.length:=by have:=U7 f;simpa using this
 unfold yL;refine IN H ?_;refine IL H A y (by omega) f fun o x arr b=>?_;have a:=b.len;unfold WE;simp only[dM,cQ];refine H.st .num .num (by rw[a];decide) ?_;refine H.st .num (.op H.vn .num (UU _ _)) (by rw[dP,a];decide) ?_;refine H.st .num .num (by rw[dP,dP,a];decide) ?_;refine H.wi .num ?_;refine H.ws .num ?_;rw[eP (by omega)];have p:(4001:Int).toNat=4001:=rfl;have u:(4002:Int).toNat=4002:=rfl;have v:(4003:Int).toNat=4003:=rfl;rw[p,u,v]
 have B: ∀j,j<4000→(((arr.set 4001 1145390419).set 4002 ((t.length:Int) *4)).set 4003 4224)[j]?=arr[j]?:=fun j d=>by
  rw[gX (by rw[dP,dP];omega),aL (by omega),gX (by rw[dP];omega),aL (by omega),gX (by omega),aL (by omega)]
 have C:PW (((arr.set 4001 1145390419).set 4002 ((t.length:Int) *4)).set 4003 4224) (Nu T):=by
  intro j d;simp only[Nu,aQ,aV]at d⊢;rw[gX (by rw[dP,dP];omega),gX (by rw[dP];omega),gX (by omega)];have :j=0∨j=1∨j=2:=by omega
  rcases this with rfl|rfl|rfl
  ·rfl
  ·rw[c,Int.mul_comm];rfl
  rfl
 refine(IM H b (by omega) z (tk0:=t.length+1) rfl (by omega) ⟨256,o,x,0,Nu T,[],((arr.set 4001 1145390419).set 4002 ((t.length:Int) *4)).set 4003 4224,t.length+1+1,by simp [Nu],C,by rw[dP,dP,dP,a],B, ?_,fun e=>by omega,by omega,by rw[show zK T 0=(QH,[])by unfold zK;rw[kB];rfl];decide, ?_⟩).imp fun s D=>⟨D.1,by omega⟩
 ·have e:MP T 0=Nu T:=by unfold MP zK;rw[kB];show Nu T++[]=_;rw[dZ]
  rw[e,cQ]
 have i:zK T 0=(QH,[]):=by unfold zK;rw[kB];rfl
 have k:(Nu T).length=3:=rfl;have l:(4004 -((3:Nat):Int))=4001:=rfl;have n:((0:Nat):Int)=0:=rfl;rw[i,k,l,n,c];rfl
def gF (o a b c:Int):Int:=o *16777216+a *1048576+b *65536+c
def zH (d X e:Int):List Int:=[gF 16 2 0 (d+1),gF 16 1 0 d,X,gF 17 1 0 (e+1)]
abbrev zl (d m:Int):Zs:=⟨d,1880096768,m⟩
theorem QF {q c d s m A:Int} (u:uZ c=A) (v:0≤A∧A<4294967296) (l: ¬gS (c- 48)<10) (j: ¬c=32) (t: ¬gS (c- 97)<26) (n: ¬c=58) (o: ¬c=64) (p: ¬c=87) (k: ¬c=35) (hd:0≤d∧d≤200) (g:2≤A/536870912+d):
  vT q c ⟨d,s,m⟩=zH d (A % 536870912) (d+A/536870912 - 2)∧Bw q c ⟨d,s,m⟩=⟨d+A/536870912 - 2,s,m⟩:=by
 have a:gS (270532609+d)=gF 16 2 0 (d+1):=by rw[eP (by omega)];simp only[gF];omega
 have b:gS (269484032+d)=gF 16 1 0 d:=by rw[eP (by omega)];simp only[gF];omega
 have e:gS (d+A/536870912)=d+A/536870912:=eP (by omega);have f:gS (d+A/536870912 - 2)=d+A/536870912 - 2:=eP (by omega);have i:gS (286261249+(d+A/536870912 - 2))=gF 17 1 0 (d+A/536870912 - 2+1):=by rw[eP (by omega)];simp only[gF];omega
 simp only[vT,Bw,DL,zd,X5,DN,Nb,C6,Q3,C7,DI,Nc,Vk,aL l,aL j,aL t,aL n,aL o,aL p,aL k,u,a,b,e,f,i,zH];trivial
theorem Q4 {q c d s m:Int} (u:48≤c∧c≤57) (hd:0≤d∧d≤200) (v:0≤m∧m *10+(c- 48)<4294967296):
  vT q c ⟨d,s,m⟩=zH d (gF 3 1 2 0) d∧Bw q c ⟨d,s,m⟩=⟨d,s,m *10+(c- 48)⟩:=by
 have t:uZ c=1125253120:=by
  have :c=48∨c=49∨c=50∨c=51∨c=52∨c=53∨c=54∨c=55∨c=56∨c=57:=by omega
  rcases this with rfl|rfl|rfl|rfl|rfl|rfl|rfl|rfl|rfl|rfl<;>decide
 have k:gS (c- 48)<10:=by rw[eP (by omega)];omega
 have p: ¬gS (c- 97)<26:=by show ¬IntKind.wrap .u32 _<26;rw[IntKind.wrap_u32];omega
 have i: ¬c=32:=by omega
 have l: ¬c=58:=by omega
 have n: ¬c=64:=by omega
 have o: ¬c=87:=by omega
 have j: ¬c=35:=by omega
 have a:gS (gS (m *10)+gS (c- 48))=m *10+(c- 48):=by rw[eP (x:=m *10) (by omega),eP (x:=c- 48) (by omega),eP (by omega)]
 have b:gS (270532609+d)=gF 16 2 0 (d+1):=by rw[eP (by omega)];simp only[gF];omega
 have e:gS (269484032+d)=gF 16 1 0 d:=by rw[eP (by omega)];simp only[gF];omega
 have f:gS (gS (d+1125253120/536870912)- 2)=d:=by rw[eP (x:=d+1125253120/536870912) (by omega),eP (by omega)];omega
 have g:gS (286261249+d)=gF 17 1 0 (d+1):=by rw[eP (by omega)];simp only[gF];omega
 simp only[vT,Bw,DL,zd,X5,DN,Nb,C6,Q3,C7,DI,Nc,Vk,bH k,aL i,aL p,aL l,aL n,aL o,aL j,t,a,b,e,f,g,zH];exact⟨rfl,trivial⟩
theorem DR {q d s m:Int} (hd:0≤d∧d≤200) (n:0≤m∧m<4294967296):
  vT q 32 ⟨d,s,m⟩=[gF 16 2 0 (d+1),gF 1 1 0 (m % 65536),gF 2 1 0 (m/65536),gF 17 1 0 (d+1+1)]∧Bw q 32 ⟨d,s,m⟩=⟨d+1,s,0⟩:=by
 have l:uZ 32=1645215744:=by decide
 have j: ¬gS (32 - 48)<10:=by decide
 have k: ¬gS (32 - 97)<26:=by decide
 have a:gS (270532609+d)=gF 16 2 0 (d+1):=by rw[eP (by omega)];simp only[gF];omega
 have b:gS (17825792+m % 65536)=gF 1 1 0 (m % 65536):=by rw[eP (by omega)];simp only[gF];omega
 have c:gS (1645215744+m/65536)=1645215744+m/65536:=eP (by omega);have e:(1645215744+m/65536)/536870912=3:=by omega
 have g:(1645215744+m/65536) % 536870912=gF 2 1 0 (m/65536):=by simp only[gF];omega
 have i:gS (gS (d+3)- 2)=d+1:=by rw[eP (x:=d+3) (by omega),eP (by omega)];omega
 have f:gS (286261249+(d+1))=gF 17 1 0 (d+1+1):=by rw[eP (by omega)];simp only[gF];omega
 simp only[vT,Bw,DL,zd,X5,DN,Nb,C6,Q3,C7,DI,Nc,Vk,aL j,aL k,l,a,b,c,e,f,g,i,cT,aL (show ¬(32:Int)=87 by decide),aL (show ¬(32:Int)=58 by decide),aL (show ¬(32:Int)=64 by decide),aL (show ¬(32:Int)=35 by decide)];trivial
theorem QE {q c d s m S g:Int} (z:97≤c∧c≤122) (hd:0≤d∧d≤200) (C:s=S+g *536870912) (y:0≤S∧S<536870000) (A:0≤g∧g≤3) (B:2≤g+d):
  vT q c ⟨d,s,m⟩=zH d (S+c) (d+g- 2)∧Bw q c ⟨d,s,m⟩=zl (d+g- 2) m:=by
 have o: ¬gS (c- 48)<10:=by rw[eP (by omega)];omega
 have v:gS (c- 97)<26:=by rw[eP (by omega)];omega
 have l: ¬c=32:=by omega
 have p: ¬c=58:=by omega
 have t: ¬c=64:=by omega
 have u: ¬c=87:=by omega
 have n: ¬c=35:=by omega
 have a:gS (s+c)=s+c:=eP (by omega);have b:gS (270532609+d)=gF 16 2 0 (d+1):=by rw[eP (by omega)];simp only[gF];omega
 have e:gS (269484032+d)=gF 16 1 0 d:=by rw[eP (by omega)];simp only[gF];omega
 have f:(s+c)/536870912=g:=by omega
 have k:(s+c) % 536870912=S+c:=by omega
 have i:gS (gS (d+g)- 2)=d+g- 2:=by rw[eP (x:=d+g) (by omega),eP (by omega)]
 have j:gS (286261249+(d+g- 2))=gF 17 1 0 (d+g- 2+1):=by rw[eP (by omega)];simp only[gF];omega
 simp only[vT,Bw,DL,zd,X5,DN,Nb,C6,Q3,C7,DI,Nc,Vk,aL o,aL l,bH v,aL p,aL t,aL u,aL n,a,b,e,f,i,j,k,zH];trivial
theorem SI {q c d m:Int} (a:97≤c∧c≤122) (hd:0≤d∧d≤200):vT q c (zl d m)=zH d (gF 16 1 0 c) (d+1)∧Bw q c (zl d m)=zl (d+1) m:=by
 have:=QE (q:=q) (m:=m) (S:=269484032) (g:=3) (s:=1880096768) a hd (by decide) (by decide) (by decide) (by omega);rw[show d+3 - 2=d+1 by omega,show 269484032+c=gF 16 1 0 c by simp only[gF];omega]at this;exact this
theorem SE {q c d m:Int} (a:97≤c∧c≤122) (hd:1≤d∧d≤200):vT q c ⟨d,824180736,m⟩=zH d (gF 17 2 0 c) (d- 1)∧Bw q c ⟨d,824180736,m⟩=zl (d- 1) m:=by
 have:=QE (q:=q) (m:=m) (S:=287309824) (g:=1) (s:=824180736) a (d:=d) (by omega) (by decide) (by decide) (by decide) (by omega);rw[show d+1 - 2=d- 1 by omega,show 287309824+c=gF 17 2 0 c by simp only[gF];omega]at this;exact this
theorem Vn {q d m:Int} (hd:0≤d∧d≤200):vT q 58 (zl d m)=zH d (gF 3 1 2 0) d∧Bw q 58 (zl d m)=⟨d,824180736,m⟩:=by
 have i:uZ 58=1125253120:=by decide
 have f: ¬gS (58 - 48)<10:=by decide
 have g: ¬gS (58 - 97)<26:=by decide
 have a:gS (270532609+d)=gF 16 2 0 (d+1):=by rw[eP (by omega)];simp only[gF];omega
 have b:gS (269484032+d)=gF 16 1 0 d:=by rw[eP (by omega)];simp only[gF];omega
 have c:gS (gS (d+1125253120/536870912)- 2)=d:=by rw[eP (x:=d+1125253120/536870912) (by omega),eP (by omega)];omega
 have e:gS (286261249+d)=gF 17 1 0 (d+1):=by rw[eP (by omega)];simp only[gF];omega
 simp only[vT,Bw,DL,zd,X5,DN,Nb,C6,Q3,C7,DI,Nc,Vk,aL f,aL g,i,a,b,c,e,zH,cT,aL (show ¬(58:Int)=87 by decide),aL (show ¬(58:Int)=32 by decide),aL (show ¬(58:Int)=64 by decide),aL (show ¬(58:Int)=35 by decide)];exact⟨rfl,trivial⟩
theorem SJ {q d m:Int} (hd:0≤d∧d≤200):vT q 64 (zl d m)=[gF 16 2 0 (d+1),gF 25 2 0 4096,gF 16 1 2 128,gF 17 1 0 (d+1)]∧Bw q 64 (zl d m)=zl d m:=by
 have g:uZ 64=1343357056:=by decide
 have e: ¬gS (64 - 48)<10:=by decide
 have f: ¬gS (64 - 97)<26:=by decide
 have a:gS (270532609+d)=gF 16 2 0 (d+1):=by rw[eP (by omega)];simp only[gF];omega
 have b:gS (gS (d+1343357056/536870912)- 2)=d:=by rw[eP (x:=d+1343357056/536870912) (by omega),eP (by omega)];omega
 have c:gS (286261249+d)=gF 17 1 0 (d+1):=by rw[eP (by omega)];simp only[gF];omega
 simp only[zl,vT,Bw,DL,zd,X5,Nb,C6,Q3,C7,DI,Nc,Vk,aL e,aL f,g,a,b,c,cT,aL (show ¬(64:Int)=87 by decide),aL (show ¬(64:Int)=32 by decide),aL (show ¬(64:Int)=58 by decide),aL (show ¬(64:Int)=35 by decide)];exact⟨rfl,trivial⟩
theorem D6 {q d m:Int} (hd:2≤d∧d≤200):vT q 35 (zl d m)=[gF 16 2 0 (d+1),gF 16 1 0 d,gF 25 1 0 4096,gF 17 2 1 128]∧Bw q 35 (zl d m)=zl (d- 2) m:=by
 have g:uZ 35=420483072:=by decide
 have e: ¬gS (35 - 48)<10:=by decide
 have f: ¬gS (35 - 97)<26:=by decide
 have a:gS (270532609+d)=gF 16 2 0 (d+1):=by rw[eP (by omega)];simp only[gF];omega
 have b:gS (269484032+d)=gF 16 1 0 d:=by rw[eP (by omega)];simp only[gF];omega
 have c:gS (gS (d+420483072/536870912)- 2)=d- 2:=by rw[eP (x:=d+420483072/536870912) (by omega),eP (by omega)];omega
 simp only[zl,vT,Bw,DL,zd,X5,DN,Nb,C6,Q3,C7,DI,Nc,Vk,aL e,aL f,g,a,b,c,cT,aL (show ¬(35:Int)=87 by decide),aL (show ¬(35:Int)=32 by decide),aL (show ¬(35:Int)=58 by decide),aL (show ¬(35:Int)=64 by decide)];exact⟨rfl,trivial⟩
theorem Vm {q d m:Int} (l:0≤q∧q≤3000) (hd:0≤d∧d≤200):vT q 87 (zl d m)=zH d (gF 1 1 0 (4 *q)) (d+1)∧Bw q 87 (zl d m)=zl (d+1) m:=by
 have a: ¬gS (87 - 48)<10:=by decide
 have b: ¬gS (87 - 97)<26:=by decide
 have e:gS (270532609+d)=gF 16 2 0 (d+1):=by rw[eP (by omega)];simp only[gF];omega
 have f:gS (269484032+d)=gF 16 1 0 d:=by rw[eP (by omega)];simp only[gF];omega
 have c:gS (1628438528+gS (q *4))=1628438528+q *4:=by rw[eP (x:=q *4) (by omega),eP (by omega)]
 have g:(1628438528+q *4)/536870912=3:=by omega
 have k:(1628438528+q *4) % 536870912=gF 1 1 0 (4 *q):=by simp only[gF];omega
 have i:gS (gS (d+3)- 2)=d+1:=by rw[eP (x:=d+3) (by omega),eP (by omega)];omega
 have j:gS (286261249+(d+1))=gF 17 1 0 (d+1+1):=by rw[eP (by omega)];simp only[gF];omega
 simp only[*,zl,vT,Bw,DL,zd,X5,DN,Nb,C7,DI,Nc,Vk,aL a,aL b,zH,cT,aL (show ¬(87:Int)=58 by decide),aL (show ¬(87:Int)=32 by decide),aL (show ¬(87:Int)=64 by decide),aL (show ¬(87:Int)=35 by decide)];trivial
theorem Nh {q d m n:Int} (e:0≤n∧n≤3000) (hd:1≤d∧d≤200):vT q (857735172+4 *n) (zl d m)=zH d (gF 19 2 0 (4 *n+4)) (d- 1)∧Bw q (857735172+4 *n) (zl d m)=zl (d- 1) m:=by
 have c:uZ (857735172+4 *n)=857735172+4 *n:=by
  have a:Gp (857735172+4 *n)=857735172+4 *n:=aL (by omega);have b:Bl (857735172+4 *n)=857735172+4 *n:=by unfold Bl;rw[a,aL (by omega)]
  unfold uZ;rw[b,aL (by omega)]
 have:=QF (q:=q) (d:=d) (s:=1880096768) (m:=m) c (by omega) (by rw[eP (by omega)];omega) (by omega) (by rw[eP (by omega)];omega) (by omega) (by omega) (by omega) (by omega) (by omega) (by omega);rw[show(857735172+4 *n)/536870912=1 by omega,show d+1 - 2=d- 1 by omega,show(857735172+4 *n) % 536870912=gF 19 2 0 (4 *n+4)by simp only[gF];omega]at this;exact this
theorem pH {c A X g:Int} (f:uZ c=A) (i:A=X+g *536870912) (k:(0≤X∧X<536870912)∧(0≤g∧g≤3)) (b: ¬gS (c- 48)<10) (e: ¬gS (c- 97)<26) (a: ¬c=32∧ ¬c=58∧ ¬c=64∧ ¬c=87∧ ¬c=35) {q d m:Int} (hd:0≤d∧d≤200) (j:2≤g+d):vT q c (zl d m)=zH d X (d+g- 2)∧Bw q c (zl d m)=zl (d+g- 2) m:=by
 have:=QF (q:=q) (d:=d) (s:=1880096768) (m:=m) f (by omega) b a.1 e a.2.1 a.2.2.1 a.2.2.2.1 a.2.2.2.2 hd (by omega);rw[show A/536870912=g by omega,show A % 536870912=X by omega]at this;exact this
theorem SG {o:Int} (h:4≤o∧o≤15): ∃c:UInt8,Go.Proofs.YtaecpjgmcffliaaGreatDoor.opS[(o- 4).toNat]?=some c∧ ∀{q d m:Int},1≤d∧d≤200→vT q (c.toNat:Int) (zl d m)=zH d (gF o 1 1 2) (d- 1)∧Bw q (c.toNat:Int) (zl d m)=zl (d- 1) m:=by
 have :o=4∨o=5∨o=6∨o=7∨o=8∨o=9∨o=10∨o=11∨o=12∨o=13∨o=14∨o=15:=by omega
 have i: ∀{o:Int} {c:UInt8},uZ (c.toNat:Int)=gF o 1 1 2+1 *536870912→0≤gF o 1 1 2∧gF o 1 1 2<536870912→ ¬gS ((c.toNat:Int)- 48)<10→ ¬gS ((c.toNat:Int)- 97)<26→(¬(c.toNat:Int)=32∧ ¬(c.toNat:Int)=58∧ ¬(c.toNat:Int)=64∧ ¬(c.toNat:Int)=87∧ ¬(c.toNat:Int)=35)→ ∀{q d m:Int},1≤d∧d≤200→vT q (c.toNat:Int) (zl d m)=zH d (gF o 1 1 2) (d- 1)∧Bw q (c.toNat:Int) (zl d m)=zl (d- 1) m:=by
  intro o c a b e f g q d m hd;have:=pH (q:=q) (m:=m) (d:=d) a rfl ⟨b,by decide⟩ e f g (by omega) (by omega);rw[show d+1 - 2=d- 1 by omega]at this;exact this
 rcases this with rfl|rfl|rfl|rfl|rfl|rfl|rfl|rfl|rfl|rfl|rfl|rfl<;>exact⟨_,rfl,i (by decide) (by decide) (by decide) (by decide) (by decide)⟩
mutual
def cE (rs:dC→Bool×Int):Ex→List AV
 | .mk k o n s l=>[.int .i64 k, .int .i64 o, .int .u32 n, .bool (rs s).1, .int .i64 (rs s).2, .isl 6 (ZD rs l)]
def ZD (rs:dC→Bool×Int):List Ex→List (List AV)
 |[]=>[]
 |e::l=>cE rs e::ZD rs l
end
mutual
def cS (rs:dC→Bool×Int):Sm→List AV
 | .mk k s l t u=>[.int .i64 k, .bool (rs s).1, .int .i64 (rs s).2, .isl 6 (l.map (cE rs)), .isl 6 (YV rs t), .isl 6 (YV rs u)]
def YV (rs:dC→Bool×Int):List Sm→List (List AV)
 |[]=>[]
 |e::l=>cS rs e::YV rs l
end
def Cf.row (f:Cf):List AV:=[.int .i64 f.words, .isl 6 (f.body.map (cS f.res))]
def gL (n:Int):List AV:=[.int .u32 n]
def rE (c:UInt8):List AV:=[.int .u8 c.toNat]
def fU:List Nat→List (List Int)→List (List AV)
 |b::bs,l::ls=>[.osl 1 b l.length]::fU bs ls
 |_,_=>[]
theorem wZ: ∀(a:List Nat) (c:List (List Int)) (i:Nat) b l,a[i]?=some b→c[i]?=some l→(fU a c)[i]?=some [.osl 1 b l.length]
 |[],_,i,b,l,h,_=>by simp at h
 |b0::a,[],i,b,l,_,h=>by simp at h
 |b0::a,l0::c,0,b,l,h,h'=>by
  simp only[fA,Option.some.injEq]at h h';subst h;subst h';simp [fU]
 |b0::a,l0::c,i+1,b,l,h,h'=>by
  simp only[kV]at h h';simp only[fU,kV];exact wZ a c i b l h h'
theorem wY: ∀(a:List Nat) (c:List (List Int)) (i:Nat) (f:List Int→List Int),(∀l,(f l).length=l.length)→fU a (c.modify i f)=fU a c
 |[],c,i,f,_=>by simp [fU]
 |b::a,[],i,f,_=>by simp [fU]
 |b::a,l::c,0,f,h=>by simp [fU,h]
 |b::a,l::c,i+1,f,h=>by simp [fU,wY a c i f h]
theorem Ft: ∀(c:List Nat) (a:List (List Int)),c.length=a.length→(fU c a).length=a.length
 |[],[],_=>rfl
 |b::c,l::a,h=>by simp [fU,Ft c a (by simpa using h)]
 |[],_::_,h=>by simp at h
 |_::_,[],h=>by simp at h
structure nS (cx:Cx) (br bv:Nat) (abs:List Nat) (st:RS) (vo:AV) (H:Hp):Prop where
 r:H br=some (.rows 8 [[.isl 2 (cx.funs.map Cf.row), .osl 1 bv st.vars.length, .isl 1 (fU abs st.arrs), .str cx.inp, .int .i64 st.read,vo, .int .i64 st.ticks, .int .i64 cx.fuel]])
 v:H bv=some (.rows 1 (st.vars.map gL))
 al:abs.length=st.arrs.length
 a: ∀(i:Nat) b l,abs[i]?=some b→st.arrs[i]?=some l→H b=some (.rows 1 (l.map gL))
 nd:abs.Nodup
 va:bv∉abs
 o:eB 1 vo (st.out.map rE) H
 ov:off vo bv
 oa: ∀b∈abs,off vo b
 uv: ∀x∈st.vars,dX x
 ua: ∀l∈st.arrs,l.length≤4096∧ ∀x∈l,dX x
 ub:st.out.length≤65536
 rd:st.read≤cx.inp.length
 tk:st.ticks≤cx.fuel
def kJ (br bv:Nat) (abs:List Nat) (vo vo':AV) (H H':Hp):Prop:= ∀b o,H b=some o→b≠br→b≠bv→b∉abs→off vo b→H' b=some o∧off vo' b
def rK (br bv:Nat) (abs:List Nat) (vo vo':AV) (bo:Nat) (H H':Hp):Prop:= ∀b o,H b=some o→b≠br→b≠bv→b∉abs→off vo b→b≠bo→H' b=some o∧off vo' b
structure Bo (bv:Nat) (abs:List Nat) (vo:AV) (b:Nat) (rows:List (List AV)) (H:Hp):Prop where
 h:H b=some (.rows 1 rows)
 nv:b≠bv
 na:b∉abs
 nf:off vo b
theorem kJ.refl (br bv:Nat) (abs:List Nat) (vo:AV) (H:Hp):kJ br bv abs vo vo H H:=fun _ _ h _ _ _ a=>⟨h,a⟩
theorem kJ.trans {br bv:Nat} {abs:List Nat} {vo e f:AV} {H H1 H2:Hp} (h:kJ br bv abs vo e H H1) (j:kJ br bv abs e f H1 H2):kJ br bv abs vo f H H2:=fun b o l a c d k=>by
 obtain⟨g,i⟩:=h b o l a c d k;exact j b o g a c d i
theorem kJ.s {br bv:Nat} {abs:List Nat} {vo a:AV} {H H1:Hp} (h:kJ br bv abs vo a H H1) (c:Nat):rK br bv abs vo a c H H1:=fun b o i d e f g _=>h b o i d e f g
theorem rK.trans {br bv a:Nat} {abs:List Nat} {vo g i:AV} {H H1 H2:Hp} (h:rK br bv abs vo g a H H1) (l:rK br bv abs g i a H1 H2):rK br bv abs vo i a H H2:=fun b o p c d e n f=>by
 obtain⟨j,k⟩:=h b o p c d e n f;exact l b o j c d e k f
theorem kJ.updN {br bv:Nat} {abs:List Nat} {vo d:AV} {H H1:Hp} (h:kJ br bv abs vo d H H1) {b:Nat} (n:H b=none) (o:Option iG):kJ br bv abs vo d H (Go.Al.upd H1 b o):=fun c p a i j k l=>by
 obtain⟨f,g⟩:=h c p a i j k l;have :c≠b:=fun e=>by rw[e,n]at a;cases a
 exact⟨by rw[cI _ _ this];exact f,g⟩
theorem rK.new {br bv a:Nat} {abs:List Nat} {vo d:AV} {H H1:Hp} {o:Option iG} (k:H a=none) (h:rK br bv abs vo d a (Go.Al.upd H a o) H1):kJ br bv abs vo d H H1:=fun b l c f g i j=>by
 have :b≠a:=fun e=>by rw[e,k]at c;cases c
 exact h b l (by rw[cI _ _ this];exact c) f g i j this
theorem kJ.new {br bv a:Nat} {abs:List Nat} {vo b:AV} {H H1:Hp} {o:Option iG} (c:H a=none) (h:kJ br bv abs vo b (Go.Al.upd H a o) H1):kJ br bv abs vo b H H1:=rK.new c (h.s a)
section
variable {cx : Cx} {br bv : Nat} {abs : List Nat} {st : RS} {vo : AV} {H : Hp}
theorem nS.nbr (h:nS cx br bv abs st vo H) {b:Nat} {l:List (List AV)} (a:H b=some (.rows 1 l)):b≠br:=fun e=>by rw[e,h.r]at a;cases a
theorem Bo.keep {b:Nat} {rows:List (List AV)} (h:Bo bv abs vo b rows H) (f:nS cx br bv abs st vo H) {a:AV} {H':Hp} (e:kJ br bv abs vo a H H'):Bo bv abs a b rows H':=by
 obtain⟨c,d⟩:=e b _ h.h (f.nbr h.h) h.nv h.na h.nf;exact⟨c,h.nv,h.na,d⟩
theorem nS.abs_some (h:nS cx br bv abs st vo H) {b:Nat} (d:b∈abs):H b≠none:=by
 obtain⟨i,c⟩:=iZ d;have e:i<st.arrs.length:=by have:=(bF.1 c).1;rw[←h.al];exact this
 rw[h.a i b _ c (aF e)];exact bY _
theorem nS.new (h:nS cx br bv abs st vo H) {b:Nat} (c:H b=none) (o:Option iG):nS cx br bv abs st vo (upd H b o):=by
 have j:br≠b:=fun e=>by have:=h.r;rw[e,c]at this;cases this
 have k:bv≠b:=fun e=>by have:=h.v;rw[e,c]at this;cases this
 refine {h with r:=by rw[cI _ _ j];exact h.r,v:=by rw[cI _ _ k];exact h.v,a:=fun i d l f g=>?_,o:=h.o.upd c o};have n:d≠b:=fun e=>h.abs_some (aZ f) (by rw[e,c]);rw[cI _ _ n];exact h.a i d l f g
theorem nS.fresh (h:nS cx br bv abs st vo H) {b:Nat} (a:H b=none) (rows:List (List AV)):Bo bv abs vo b rows (upd H b (some (.rows 1 rows))):=
 ⟨bE _ _ _,(fun e=>by have:=h.v;rw[←e,a]at this;cases this),(fun e=>h.abs_some e a),h.o.new a⟩
theorem Bo.new {b a:Nat} {rows:List (List AV)} (h:Bo bv abs vo b rows H) (c:H a=none) (o:Option iG):Bo bv abs vo b rows (upd H a o):=
 ⟨by rw[cI _ _ (fun e=>by have:=h.h;rw[e,c]at this;cases this)];exact h.h,h.nv,h.na,h.nf⟩
theorem nS.own (h:nS cx br bv abs st vo H) {b:Nat} {rows:List (List AV)} (c:Bo bv abs vo b rows H) (o:Option iG):nS cx br bv abs st vo (upd H b o):=by
 have j:br≠b:=fun e=>h.nbr c.h e.symm;have k:bv≠b:=fun e=>c.nv e.symm;refine {h with r:=by rw[cI _ _ j];exact h.r,v:=by rw[cI _ _ k];exact h.v,a:=fun i d l f g=>?_,o:=h.o.off c.nf o};have n:d≠b:=fun e=>c.na (e▸aZ f);rw[cI _ _ n];exact h.a i d l f g
theorem Bo.set {b:Nat} {rows a:List (List AV)} (h:Bo bv abs vo b rows H):Bo bv abs vo b a (upd H b (some (.rows 1 a))):=⟨bE _ _ _,h.nv,h.na,h.nf⟩
theorem rK.set {c:AV} {b:Nat} {H':Hp} (h:rK br bv abs vo c b H H') (o:Option iG):rK br bv abs vo c b H (upd H' b o):=fun d n l g i j k a=>by
 obtain⟨e,f⟩:=h d n l g i j k a;exact⟨by rw[cI _ _ a];exact e,f⟩
theorem nS.same {H':Hp} (h:nS cx br bv abs st vo H) (a: ∀b,H' b=H b):nS cx br bv abs st vo H':=by
 have :H'=H:=funext a;rw[this];exact h
theorem nS.turn (h:nS cx br bv abs st vo H) {st':RS} (f:st'.vars=st.vars) (b:st'.arrs=st.arrs) (e:st'.out=st.out) (n:st'.read≤cx.inp.length) (p:st'.ticks≤cx.fuel):
  nS cx br bv abs st' vo (upd H br (some (.rows 8 [[.isl 2 (cx.funs.map Cf.row), .osl 1 bv st'.vars.length, .isl 1 (fU abs st'.arrs), .str cx.inp, .int .i64 st'.read,vo, .int .i64 st'.ticks, .int .i64 cx.fuel]]))):=by
 have t:bv≠br:=h.nbr h.v;have k:off vo br:=h.o.offsz h.r (by decide);refine⟨bE _ _ _,by rw[cI _ _ t,f];exact h.v,by rw[b];exact h.al,fun i g l j c=>?_,h.nd,h.va,by rw[e];exact h.o.off k _,h.ov,h.oa,by rw[f];exact h.uv,by rw[b];exact h.ua,by rw[e];exact h.ub,n,p⟩;rw[b]at c;have d:=h.a i g l j c;rw[cI _ _ (h.nbr d)];exact d
theorem kJ.run (o:Option iG):kJ br bv abs vo vo H (upd H br o):=fun d e c a _ _ b=>⟨by rw[cI _ _ a];exact c,b⟩
theorem kJ.vars (o:Option iG):kJ br bv abs vo vo H (upd H bv o):=fun d e c _ a _ b=>⟨by rw[cI _ _ a];exact c,b⟩
theorem kJ.arr {b:Nat} (d:b∈abs) (o:Option iG):kJ br bv abs vo vo H (upd H b o):=fun g i f _ _ a c=>⟨by rw[cI _ _ (fun e=>a (by rw[e];exact d))];exact f,c⟩
theorem qY (l:List Int) (i:Nat) (v:Int):(l.map gL).set i [.int .u32 v]=(l.set i v).map gL:=by rw[List.map_set];rfl
theorem nS.setV (h:nS cx br bv abs st vo H) (i:Nat) (v:Int) (g:dX v):nS cx br bv abs {st with vars:=st.vars.set i v} vo (upd H bv (some (.rows 1 ((st.vars.map gL).set i [.int .u32 v])))):=by
 have j:br≠bv:=fun e=>h.nbr h.v e.symm;refine⟨?_,by rw[bE,qY],h.al,fun i d l c f=>?_,h.nd,h.va,h.o.off h.ov _,h.ov,h.oa,fun x b=>?_,h.ua,h.ub,h.rd,h.tk⟩
 ·rw[cI _ _ j,dP];exact h.r
 ·rw[cI _ _ (fun e=>h.va (by rw[←e];exact aZ c))];exact h.a i d l c f
 rcases pG b with b|rfl
 ·exact h.uv x b
 exact g
theorem nS.setA (h:nS cx br bv abs st vo H) {i:Nat} {b:Nat} {l:List Int} (g:abs[i]?=some b) (z:st.arrs[i]?=some l) (j:Nat) (v:Int) (D:dX v):nS cx br bv abs {st with arrs:=st.arrs.modify i fun l=>l.set j v} vo (upd H b (some (.rows 1 ((l.map gL).set j [.int .u32 v])))):=by
 have A:=aZ g;have E:br≠b:=fun e=>h.nbr (h.a i b l g z) e.symm;have F:bv≠b:=fun e=>h.va (e▸A);refine⟨?_,by rw[cI _ _ F];exact h.v,by simp only[List.length_modify];exact h.al,fun d y n p c=>?_,h.nd,h.va,h.o.off (h.oa b A) _,h.ov,h.oa,h.uv,fun n B=>?_,h.ub,h.rd,h.tk⟩
 ·rw[cI _ _ E]
  simp only;rw[wY abs st.arrs i _ (fun l=>by simp)];exact h.r
 ·simp only[Ve]at c
  by_cases t:i=d
  ·subst t
   rw[g]at p;cases p;rw[z]at c;have c:l.set j v=n:=by simpa using c
   subst c;rw[bE,qY]
  have c:st.arrs[d]?=some n:=by simpa [aL t]using c
  have :y≠b:=fun e=>by
   subst e;exact t ((List.getElem?_inj (bF.1 g).1 h.nd).1 (g.trans p.symm))
  rw[cI _ _ this];exact h.a d y n p c
 obtain⟨d,k⟩:=iZ B;rw[Ve]at k
 obtain⟨f,C,rfl⟩: ∃f,st.arrs[d]?=some f∧(if i=d then f.set j v else f)=n:=by
  cases hq:st.arrs[d]? with
  |none=>rw[hq]at k;simp at k
  |some f=>rw[hq]at k;exact⟨f,rfl,by simpa using k⟩
 have:=h.ua f (aZ C);split
 ·refine⟨by simpa using this.1,fun x u=>?_⟩
  rcases pG u with u|rfl
  ·exact this.2 x u
  exact D
 exact this
end
structure QB (cx:Cx):Prop where
 inp:cx.inp.length≤2000000
 fuel:cx.fuel<9223372036854775808
 words: ∀f∈cx.funs,f.words≤3000000
 body: ∀f∈cx.funs,yM f.body
theorem SZ {a b:Int} (d:dX a) (e:dX b) (j: ¬b=0):dX (a.tmod b):=by
 obtain⟨c,f⟩:=d;obtain⟨g,i⟩:=e;have:=Int.tmod_nonneg b c;have:=Int.tmod_lt_of_pos a (show 0<b by omega);exact⟨by omega,by omega⟩
theorem SN (n:Int):dX (IntKind.wrap .u32 n):=by
 have h:IntKind.wrap .u32 n=n % 4294967296:=by simp [IntKind.wrap,IntKind.signed,IntKind.bits]
 rw[h];exact⟨Int.emod_nonneg _ (by decide),Int.emod_lt_of_pos _ (by decide)⟩
theorem VW {a:Int} (d:dX a) (k:Nat):dX (a.fdiv (2^k)):=by
 obtain⟨b,f⟩:=d;have e:(0:Int)<2^k:=Int.pow_pos (by decide);rw[oW _ (by omega)];have c:=Int.ediv_nonneg b (Int.le_of_lt e);have g:=Int.ediv_le_self (2^k) b;exact⟨c,by omega⟩
theorem VJ {c:Prop} [Decidable c] {x y:Int} (h:c→dX x) (b: ¬c→dX y):dX (if c then x else y):=by
 by_cases a:c
 ·rw[bH a];exact h a
 rw[aL a];exact b a
theorem Lh (op:Int) {a b:Int} (c:dX a) (d:dX b):dX (eR op a b).1:=by
 unfold eR;generalize min b.toNat 32=k;have z:dX 0:=by simp [dX]
 have o:dX 1:=by simp [dX]
 simp only[apply_ite Prod.fst]
 repeat' refine VJ (fun _=>?_) fun _=>?_
 all_goals first|exact SN _|exact z|exact o|exact SZ c d ‹_› |exact VW c _
structure Mc where
 pc:Int
 r1:Int
 r2:Int
 mem:List Int
 rd:Nat
 out:dC
 st:Nat
def Mc.r (s:Mc) (a:Int):Int:=if a=1 then s.r1 else if a=2 then s.r2 else 0
def Mc.nx (s:Mc):Mc:={s with pc:=s.pc+1,st:=s.st+1}
def Mc.to (s:Mc) (p:Int):Mc:={s with pc:=p,st:=s.st+1}
def Mc.stp (s:Mc):Mc:={s with st:=s.st+1}
def Mc.set (s:Mc) (a x:Int):Option (Int×Mc):=if a=1 then some (0,{s.nx with r1:=x})else if a=2 then some (0,{s.nx with r2:=x})else none
def tX (inp:dC) (o a b c:Int) (s:Mc):Option (Int×Mc):=
 if o=1 then s.set a c
 else if o=2 then s.set a (s.r a % 65536+c *65536)
 else if o=3 then s.set a (s.r b)
 else if 4≤o∧o≤15 then(if(eR o (s.r b) (s.r c)).2=0 then s.set a (eR o (s.r b) (s.r c)).1 else some (2,s.stp))
 else if o=16 then(match s.mem[(gS (s.r b+c)).toNat]? with
  |some x=>s.set a x
  |none=>none)
 else if o=17 then(if(gS (s.r b+c)).toNat<s.mem.length then some (0,{s.nx with mem:=s.mem.set (gS (s.r b+c)).toNat (s.r a)})else none)
 else if o=19 then some (0,if s.r a=0 then s.to c else s.nx)
 else if o=22 then some (0,s.to (s.r a))
 else if o=23 then(match inp[s.rd]? with
  |some x=>({s with rd:=s.rd+1}:Mc).set a (x.toNat:Int)
  |none=>s.set a 256)
 else if o=24 then(if 65536≤s.out.length then some (4,s.stp)else some (0,{s.nx with out:=s.out++[UInt8.ofNat (IntKind.wrap .u8 (s.r a)).toNat]}))
 else if o=25 then(if s.r a<c then some (0,s.nx)else some (3,s.stp))
 else if o=26 then some (1,s.stp)
 else none
def mX (W:List Int) (inp:dC) (s:Mc):Option (Int×Mc):=
 if s.pc<0 then none else match W[s.pc.toNat]? with
  |some w=>tX inp (w/16777216) (w/1048576 % 16) (w/65536 % 16) (w % 65536) s
  |none=>none
inductive Go (W:List Int) (inp:dC):Nat→Mc→Mc→Prop where
 |nil (s:Mc):Go W inp 0 s s
 |step {k:Nat} {s s1 s2:Mc} (h:mX W inp s=some (0,s1)) (g:Go W inp k s1 s2):Go W inp (k+1) s s2
theorem Go.app {W:List Int} {inp:dC} {k j:Nat} {s s1 s2:Mc} (h:Go W inp k s s1) (g:Go W inp j s1 s2):Go W inp (k+j) s s2:=by
 induction h with
 |nil s=>rw[bT];exact g
 |step h _ ih=>rw[Nat.add_right_comm];exact .step h (ih g)
theorem Go.one {W:List Int} {inp:dC} {s s1:Mc} (h:mX W inp s=some (0,s1)):Go W inp 1 s s1:= .step h (.nil _)
def Fin (W:List Int) (inp:dC) (k:Nat) (s:Mc) (e:Int) (s':Mc):Prop:= ∃s1,Go W inp k s s1∧mX W inp s1=some (e,s')
theorem Fin.after {W:List Int} {inp:dC} {k j:Nat} {s s1 s':Mc} {e:Int} (h:Go W inp k s s1) (g:Fin W inp j s1 e s'):Fin W inp (k+j) s e s':=by
 obtain⟨c,a,b⟩:=g;exact⟨c,h.app a,b⟩
theorem mJ {W:List Int} {inp:dC} {s:Mc} {o a b c:Int} {p:Nat} (e:s.pc=(p:Int)) (f:W[p]?=some (gF o a b c)) (h:(0≤o∧o≤200)∧(0≤a∧a≤15)∧(0≤b∧b≤15)∧(0≤c∧c≤65535)):mX W inp s=tX inp o a b c s:=by
 have g:gF o a b c/16777216=o:=by simp only[gF];omega
 have i:gF o a b c/1048576 % 16=a:=by simp only[gF];omega
 have j:gF o a b c/65536 % 16=b:=by simp only[gF];omega
 have k:gF o a b c % 65536=c:=by simp only[gF];omega
 unfold mX;rw[aL (by omega),e,cC,f];simp only[*]
def yG (W:List Int) (k:Nat) (l:List Int):Prop:= ∀i,i<l.length→W[k+i]?=l[i]?
theorem yG.app {W:List Int} {k:Nat} {a b:List Int} (h:yG W k (a++b)):yG W k a∧yG W (k+a.length) b:=by
 refine⟨fun i c=>?_,fun i c=>?_⟩
 ·rw[h i (by rw[aH];omega),iE c]
 rw[gE,h (a.length+i) (by rw[aH];omega),jA (by omega),iQ]
def Mc.m (s:Mc) (j:Nat):Int:=(s.mem[j]?).getD 0
theorem Mc.m_some {s:Mc} {j:Nat} {v:Int} (h:s.mem[j]?=some v):s.m j=v:=by unfold Mc.m;rw[h];rfl
theorem Mc.m_get {s:Mc} {j:Nat} (h:j<s.mem.length):s.mem[j]?=some (s.m j):=by unfold Mc.m;rw[aF h];rfl
section
variable {W : List Int} {inp : dC} {s : Mc} {q d : Nat}
theorem V3 {p x a:Nat} (c:s.pc=(p:Int)) (f:W[p]?=some (gF 16 a 0 x)) (b:a=1∨a=2) (i:x<300) (g:s.mem.length=4224):mX W inp s=some (0,if a=1 then {s.nx with r1:=s.m x}else {s.nx with r2:=s.m x}):=by
 rw[mJ c f (by omega)];have e:gS (s.r 0+(x:Int))=(x:Int):=by show gS (0+(x:Int))=_;rw[Int.zero_add,eP (by omega)]
 simp only[tX,e,cC,Mc.m_get (s:=s) (show x<s.mem.length by omega)];rcases b with rfl|rfl<;>rfl
theorem WZ {p x a:Nat} (b:s.pc=(p:Int)) (c:W[p]?=some (gF 17 a 0 x)) (f:a≤2) (i:x<300) (g:s.mem.length=4224):mX W inp s=some (0,{s.nx with mem:=s.mem.set x (s.r a)}):=by
 rw[mJ b c (by omega)];have e:gS (s.r 0+(x:Int))=(x:Int):=by show gS (0+(x:Int))=_;rw[Int.zero_add,eP (by omega)]
 simp [tX,e,show x<s.mem.length by omega]
theorem Ua (j:s.pc=((4 *q:Nat):Int)) (g:W[4 *q]?=some (gF 16 2 0 ((d+1:Nat):Int))) (i:W[4 *q+1]?=some (gF 16 1 0 (d:Int))) (hd:d≤200) (f:s.mem.length=4224):
  Go W inp 2 s {s with pc:=((4 *q+2:Nat):Int),r1:=s.m d,r2:=s.m (d+1),st:=s.st+2}:=by
 have c:=V3 (inp:=inp) (a:=2) j g (.inr rfl) (by omega) f;rw[aL (by decide)]at c;have b:=V3 (W:=W) (inp:=inp) (s:={s.nx with r2:=s.m (d+1)}) (p:=4 *q+1) (a:=1) (x:=d) (by show s.pc+1=_;omega) i (.inl rfl) (by omega) f;rw[bH rfl]at b
 have e:({({s.nx with r2:=s.m (d+1)}:Mc).nx with r1:=({s.nx with r2:=s.m (d+1)}:Mc).m d}:Mc)={s with pc:=((4 *q+2:Nat):Int),r1:=s.m d,r2:=s.m (d+1),st:=s.st+2}:=by
  show Mc.mk (s.pc+1+1) _ _ _ _ _ _=_;rw[show s.pc+1+1=((4 *q+2:Nat):Int)by omega];rfl
 rw[e]at b;exact .step c (.one b)
theorem Tv {e:Nat} (f:s.pc=((4 *q+3:Nat):Int)) (b:W[4 *q+3]?=some (gF 17 1 0 ((e+1:Nat):Int))) (i:e≤200) (c:s.mem.length=4224):
  Go W inp 1 s {s with pc:=((4 *(q+1):Nat):Int),mem:=s.mem.set (e+1) s.r1,st:=s.st+1}:=by
 have g:=WZ (inp:=inp) (a:=1) (x:=e+1) f b (by decide) (by omega) c
 have e:({s.nx with mem:=s.mem.set (e+1) (s.r ((1:Nat):Int))}:Mc)={s with pc:=((4 *(q+1):Nat):Int),mem:=s.mem.set (e+1) s.r1,st:=s.st+1}:=by
  show Mc.mk (s.pc+1) _ _ _ _ _ _=_;rw[show s.pc+1=((4 *(q+1):Nat):Int)by omega];rfl
 rw[e]at g;exact .one g
def Mc.hd (s:Mc) (q d:Nat):Mc:={s with pc:=((4 *q+2:Nat):Int),r1:=s.m d,r2:=s.m (d+1),st:=s.st+2}
theorem Qd {k e:Nat} {X:Int} (h:yG W k (zH (d:Int) X (e:Int))):W[k]?=some (gF 16 2 0 ((d+1:Nat):Int))∧W[k+1]?=some (gF 16 1 0 (d:Int))∧W[k+2]?=some X∧W[k+3]?=some (gF 17 1 0 ((e+1:Nat):Int)):=
 ⟨h 0 (by simp [zH]),h 1 (by simp [zH]),h 2 (by simp [zH]),h 3 (by simp [zH])⟩
theorem Jf {o a b c:Int} {e:Nat} {s2:Mc} (B:yG W (4 *q) (zH (d:Int) (gF o a b c) (e:Int))) (A:(0≤o∧o≤200)∧(0≤a∧a≤15)∧(0≤b∧b≤15)∧(0≤c∧c≤65535)) (y:s.pc=((4 *q:Nat):Int)) (hd:d≤200) (u:e≤200) (v:s.mem.length=4224)
  (t:tX inp o a b c (s.hd q d)=some (0,s2)) (z:s2.pc=((4 *q+3:Nat):Int)) (x:s2.mem.length=4224):
  Go W inp 4 s {s2 with pc:=((4 *(q+1):Nat):Int),mem:=s2.mem.set (e+1) s2.r1,st:=s2.st+1}:=by
 obtain⟨j,k,l,n⟩:=Qd B;have f:=Ua (inp:=inp) y j k hd v;have g:mX W inp (s.hd q d)=some (0,s2):=by rw[mJ (p:=4 *q+2) rfl l A];exact t
 have i:=Tv (inp:=inp) z n u x;exact(f.app (.one g)).app i
theorem Aj {o a b c:Int} {e:Nat} (n:yG W (4 *q) (zH (d:Int) (gF o a b c) (e:Int))) (l:(0≤o∧o≤200)∧(0≤a∧a≤15)∧(0≤b∧b≤15)∧(0≤c∧c≤65535)) (k:s.pc=((4 *q:Nat):Int)) (hd:d≤200) (j:s.mem.length=4224):
  Go W inp 2 s (s.hd q d)∧mX W inp (s.hd q d)=tX inp o a b c (s.hd q d):=by
 obtain⟨f,g,i,t⟩:=Qd n;exact⟨Ua (inp:=inp) k f g hd j,mJ (p:=4 *q+2) rfl i l⟩
end
theorem zX {l:List Int} {j:Nat} {v:Int} (h:l[j]?=some v):l.set j v=l:=by
 refine lF fun i=>?_;rw[hQ];split
 ·rename_i e;subst e
  have:=(bF.1 h).1;rw[bH this,h]
 rfl
end Go.Al
namespace Go.Proofs.YtaecpjgmcffliaaGreatDoor
open Go.Al Go.Proofs.Tryz
def jQ (t:dC):List Int:=t.map fun c=>(c.toNat:Int)
theorem jD (a b:dC):jQ (a++b)=jQ a++jQ b:=cO
theorem gH (a:dC):(jQ a).length=a.length:=aE _
theorem eL (c:Int) (q:Nat) (z:Zs):iK [c] q z=(Bw (q:Int) c z,vT (q:Int) c z):=by simp [iK]
theorem jO {W:List Int} {q:Nat} {A B:List Int} {z:Zs} (h:yG W (4 *q) (iK (A++B) q z).2):yG W (4 *q) (iK A q z).2∧yG W (4 *(q+A.length)) (iK B (q+A.length) (iK A q z).1).2:=by
 rw[zQ]at h;obtain⟨b,a⟩:=h.app;rw[vV]at a;exact⟨b,by rw[Nat.mul_add];exact a⟩
theorem iJ (A B:List Int) (q:Nat) (z:Zs):(iK (A++B) q z).1=(iK B (q+A.length) (iK A q z).1).1:=by rw[zQ]
structure Nm (V:UInt8→Prop) (A:Prop) (rs:dC→Bool×Int):Prop where
 lt: ∀c,V c→97≤c.toNat∧c.toNat≤122
 inj: ∀c c',V c→V c'→(rs [c]).2=(rs [c']).2→c=c'
 gl: ∀c,V c→(rs [c]).1=false∧0≤(rs [c]).2
 ar:A→(rs [116]).2=0
structure MR (V:UInt8→Prop) (A:Prop) (rs:dC→Bool×Int) (st:RS) (s:Mc):Prop where
 len:s.mem.length=4224
 rd:s.rd=st.read
 out:s.out=st.out
 vars: ∀c,V c→ ∃v,st.vars[((rs [c]).2).toNat]?=some v∧dX v∧s.mem[c.toNat]?=some v
 arr:A→ ∃L,st.arrs[0]?=some L∧L.length=4096∧ ∀j,j<4096→ ∃v,L[j]?=some v∧dX v∧s.mem[128+j]?=some v
section
variable {V : UInt8 → Prop} {A : Prop} {rs : dC → Bool × Int} {W : List Int} {cx : Cx}
theorem MR.keep {st:RS} {s s':Mc} (n:Nm V A rs) (h:MR V A rs st s) (p:s'.mem.length=4224) (f: ∀j,97≤j→s'.mem[j]?=s.mem[j]?) (u:s'.rd=s.rd) (t:s'.out=s.out):MR V A rs st s':=by
 refine⟨p,u.trans h.rd,t.trans h.out,fun c e=>?_,fun l=>?_⟩
 ·obtain⟨v,a,b,d⟩:=h.vars c e
  exact⟨v,a,b,by rw[f _ (n.lt c e).1];exact d⟩
 obtain⟨L,a,b,d⟩:=h.arr l;refine⟨L,a,b,fun j o=>?_⟩;obtain⟨v,g,i,k⟩:=d j o;exact⟨v,g,i,by rw[f _ (by omega)];exact k⟩
def ER (V:UInt8→Prop) (A:Prop) (rs:dC→Bool×Int) (W:List Int) (cx:Cx) (q len d:Nat) (tk:Nat) (s:Mc):Rz Int→Prop
 | .val v st'=>st'.ticks=tk∧dX v∧ ∃k s',k≤4 *len∧Go W cx.inp k s s'∧s'.pc=((4 *(q+len):Nat):Int)∧MR V A rs st' s'∧s'.mem[d+2]?=some v∧ ∀j,j<d+2→s'.mem[j]?=s.mem[j]?
 | .fin x st'=>st'.ticks=tk∧x≠0∧x≠5∧ ∃k s',k+1≤4 *len∧Fin W cx.inp k s x s'∧s'.out=st'.out
theorem Tz {inp:dC} {q d:Nat} {s:Mc} (e:yG W (4 *q) (zH (d:Int) (gF 3 1 2 0) (d:Int))) (c:s.pc=((4 *q:Nat):Int)) (hd:d≤200) (b:s.mem.length=4224): ∃a,Go W inp 4 s a∧a.pc=((4 *(q+1):Nat):Int)∧a.mem=s.mem∧a.rd=s.rd∧a.out=s.out:=by
 have g:=Jf (inp:=inp) (s2:={(s.hd q d).nx with r1:=s.m (d+1)}) e (by decide) c hd hd b rfl (by show((4 *q+2:Nat):Int)+1=_;omega) b;refine⟨_,g,rfl, ?_,rfl,rfl⟩;show s.mem.set (d+1) (s.m (d+1))=s.mem;exact zX (Mc.m_get (by omega))
theorem Pi {l:List Int} {d:Nat} {v:Int} (b:l.length=4224) (hd:d≤90):(l.set (d+2) v).length=4224∧(∀j,97≤j→(l.set (d+2) v)[j]?=l[j]?)∧(l.set (d+2) v)[d+2]?=some v∧ ∀j,j<d+2→(l.set (d+2) v)[j]?=l[j]?:=by
 refine⟨by rw[dP,b],fun j a=>?_, ?_,fun j a=>?_⟩
 ·rw[gX (by omega),aL (by omega)]
 ·rw[gX (by omega),bH rfl]
 rw[gX (by omega),aL (by omega)]
theorem V9 (n:Nat): ∀(q d:Nat),d≤200→n<4294967296→(iK (jQ (Lib.decDigits n)) q (zl d 0)).1=zl d (n:Int)∧
  ∀{inp:dC} {s:Mc},yG W (4 *q) (iK (jQ (Lib.decDigits n)) q (zl d 0)).2→s.pc=((4 *q:Nat):Int)→s.mem.length=4224→ ∃a,Go W inp (4 *(Lib.decDigits n).length) s a∧a.pc=((4 *(q+(Lib.decDigits n).length):Nat):Int)∧a.mem=s.mem∧a.rd=s.rd∧a.out=s.out:=by
 induction n using Nat.strongRecOn with
 |_ n ih=>
  intro q d hd E
  have one: ∀k:Nat,k<10→jQ [UInt8.ofNat (48+k)]=[((48+k:Nat):Int)]:=fun k D=>by
   simp only[jQ,cN,dO];rw[UInt8.toNat_ofNat',Nat.mod_eq_of_lt (by omega)]
  rw[Lib.decDigits];split
  ·rename_i h
   have z:=Q4 (q:=(q:Int)) (c:=((48+n:Nat):Int)) (d:=(d:Int)) (s:=1880096768) (m:=0) (by omega) (by omega) (by omega);rw[one n h,eL];refine⟨by rw[z.2];show Zs.mk _ _ _=Zs.mk _ _ _;congr 1;omega,fun {inp s} f o e=>?_⟩;rw[z.1]at f;obtain⟨a,g,i,b,j,l⟩:=Tz (inp:=inp) f o hd e;exact⟨a,g,i,b,j,l⟩
  rename_i h;have u:n % 10<10:=sB _ (by decide);obtain⟨t,v⟩:=ih (n/10) (by omega) q d hd (by omega);have z:=Q4 (q:=((q+(jQ (Lib.decDigits (n/10))).length:Nat):Int)) (c:=((48+n % 10:Nat):Int)) (d:=(d:Int)) (s:=1880096768) (m:=((n/10:Nat):Int)) (by omega) (by omega) (by omega);rw[jD,one _ u,iJ,t,eL];refine⟨by rw[z.2];show Zs.mk _ _ _=Zs.mk _ _ _;congr 1;omega,fun {inp s} f o e=>?_⟩;obtain⟨C,p⟩:=jO f;rw[t,eL,z.1]at p;obtain⟨F,g,i,b,j,l⟩:=v (inp:=inp) C o e;rw[gH]at p;obtain⟨B,k1,x,k3,k4,y⟩:=Tz (inp:=inp) p i hd (by rw[b];exact e);refine⟨B, ?_, ?_,k3.trans b,k4.trans j,y.trans l⟩
  ·have:=g.app k1
   rw[aH,bV,Nat.mul_add];exact this
  rw[x,aH,bV,gE]
theorem lO {i:Int} {e:Ex} (h:SX V A i e): ∀(q d:Nat),(d:Int)≤i→(iK (jQ (fR e)) q (zl d 0)).1=zl ((d+1:Nat):Int) 0:=by
 induction h with
 |num i n hl h=>
  intro q d hd;have f:fR (.mk 1 0 n [] [])=Lib.decDigits n.toNat++[32]:=by simp [fR,mG,jY]
  have k:n.toNat<4294967296:=by have:=h.1;have:=h.2;omega
  obtain⟨p,_⟩:=V9 (W:=[]) n.toNat q d (by omega) k;rw[f,jD,iJ,p];show(iK [32] _ _).1=_;rw[eL,(DR (by omega) (by omega)).2];rfl
 |var i c hl h hV=>
  intro q d hd;have f:fR (.mk 2 0 0 [c] [])=[c]:=by simp [fR,mG,jY]
  have j:97≤c.toNat∧c.toNat≤122:=by simp only[Ym,bC,bJ]at h;exact h
  rw[f];show(iK [(c.toNat:Int)] _ _).1=_;rw[eL,(SI (by omega) (by omega)).2];rfl
 |idx i a hl hA ha ih=>
  intro q d hd;have f:fR (.mk 3 0 0 [116] [a])=fR a++[64]:=by rw[fR,rZ];simp [jY]
  rw[f,jD,iJ,ih q d (by omega)];show(iK [64] _ _).1=_;rw[eL,(SJ (by omega)).2]
 |get i hl=>
  intro q d hd;have f:fR (.mk 5 0 0 [] [])=[63]:=by simp [fR,mG,jY]
  rw[f];show(iK [63] _ _).1=_;rw[eL,(pH (A:=1997537280) (X:=gF 23 1 0 0) (g:=3) (by decide) (by decide) (by decide) (by decide) (by decide) (by decide) (by omega) (by omega)).2,show((d:Int)+3 - 2)=((d+1:Nat):Int)by omega]
 |neg i a hl ha ih=>
  intro q d hd;have f:fR (.mk 7 0 0 [] [a])=fR a++[33]:=by rw[fR,rZ];simp [jY]
  rw[f,jD,iJ,ih q d (by omega)];show(iK [33] _ _).1=_;rw[eL,(pH (A:=1326579712) (X:=gF 15 1 2 0) (g:=2) (by decide) (by decide) (by decide) (by decide) (by decide) (by decide) (by omega) (by omega)).2,show(((d+1:Nat):Int)+2 - 2)=((d+1:Nat):Int)by omega]
 |op i o a b hl h ha hb iha ihb=>
  intro q d hd;obtain⟨c,j,l⟩:=SG h;have f:fR (.mk 6 o 0 [] [a,b])=fR a++(fR b++[c]):=by rw[fR,Vy];simp [jY,j]
  rw[f,jD,jD,iJ,iha q d (by omega),iJ,ihb _ (d+1) (by omega)];show(iK [(c.toNat:Int)] _ _).1=_;rw[eL,(l (by omega)).2,show(((d+1+1:Nat):Int)- 1)=((d+1:Nat):Int)by omega]
end
section
variable {V : UInt8 → Prop} {A : Prop} {rs : dC → Bool × Int} {W : List Int} {cx : Cx} {inp : dC}
theorem OQ {q d:Nat} {m:Int} {s:Mc} (c:yG W (4 *q) [gF 16 2 0 ((d:Int)+1),gF 1 1 0 (m % 65536),gF 2 1 0 (m/65536),gF 17 1 0 ((d:Int)+1+1)]) (v:0≤m∧m<4294967296) (u:s.pc=((4 *q:Nat):Int)) (hd:d≤90) (g:s.mem.length=4224):
  ∃b,Go W inp 4 s b∧b.pc=((4 *(q+1):Nat):Int)∧b.mem=s.mem.set (d+2) m∧b.rd=s.rd∧b.out=s.out:=by
 have l:W[4 *q]?=some (gF 16 2 0 ((d+1:Nat):Int)):=c 0 (by simp);have n:W[4 *q+1]?=some (gF 1 1 0 (m % 65536)):=c 1 (by simp);have o:W[4 *q+2]?=some (gF 2 1 0 (m/65536)):=c 2 (by simp);have t:W[4 *q+3]?=some (gF 17 1 0 ((d+1+1:Nat):Int)):=c 3 (by simp);have f:=V3 (inp:=inp) (a:=2) u l (.inr rfl) (by omega) g;rw[aL (by decide)]at f
 have i:mX W inp {s.nx with r2:=s.m (d+1)}=some (0,{({s.nx with r2:=s.m (d+1)}:Mc).nx with r1:=m % 65536}):=by
  rw[mJ (p:=4 *q+1) (by show s.pc+1=_;omega) n (by omega)];rfl
 have j:mX W inp {({s.nx with r2:=s.m (d+1)}:Mc).nx with r1:=m % 65536}=some (0,{({({s.nx with r2:=s.m (d+1)}:Mc).nx with r1:=m % 65536}:Mc).nx with r1:=m}):=by
  rw[mJ (p:=4 *q+2) (by show s.pc+1+1=_;omega) o (by omega)];show some _=some _;have :m % 65536 % 65536+m/65536 *65536=m:=by omega
  rw[show(Mc.r {({s.nx with r2:=s.m (d+1)}:Mc).nx with r1:=m % 65536} 1)=m % 65536 from rfl,this]
 have k:=Tv (W:=W) (inp:=inp) (q:=q) (e:=d+1) (s:={({({s.nx with r2:=s.m (d+1)}:Mc).nx with r1:=m % 65536}:Mc).nx with r1:=m}) (by show s.pc+1+1+1=_;omega) t (by omega) g;exact⟨_, .step f (.step i (.step j k)),rfl,rfl,rfl,rfl⟩
theorem XA {q d:Nat} {x:Int} {s:Mc} (f:yG W (4 *q) [gF 16 2 0 ((d:Int)+1),gF 25 2 0 4096,gF 16 1 2 128,gF 17 1 0 ((d:Int)+1)]) (C:s.mem[d+1]?=some x) (D:0≤x) (B:s.pc=((4 *q:Nat):Int)) (hd:d≤90) (j:s.mem.length=4224):
  (∀v,x<4096→s.mem[128+x.toNat]?=some v→ ∃b,Go W inp 4 s b∧b.pc=((4 *(q+1):Nat):Int)∧b.mem=s.mem.set (d+1) v∧b.rd=s.rd∧b.out=s.out)∧(¬x<4096→ ∃b,Fin W inp 1 s 3 b∧b.out=s.out):=by
 have o:W[4 *q]?=some (gF 16 2 0 ((d+1:Nat):Int)):=f 0 (by simp);have t:W[4 *q+1]?=some (gF 25 2 0 4096):=f 1 (by simp);have u:W[4 *q+2]?=some (gF 16 1 2 128):=f 2 (by simp);have y:W[4 *q+3]?=some (gF 17 1 0 ((d+1:Nat):Int)):=f 3 (by simp);have g:=V3 (inp:=inp) (a:=2) B o (.inr rfl) (by omega) j;rw[aL (by decide),Mc.m_some C]at g
 have c:mX W inp {s.nx with r2:=x}=if x<4096 then some (0,({s.nx with r2:=x}:Mc).nx)else some (3,({s.nx with r2:=x}:Mc).stp):=by
  rw[mJ (p:=4 *q+1) (by show s.pc+1=_;omega) t (by decide)];rfl
 refine⟨fun v i z=>?_,fun i=>?_⟩
 ·rw[bH i]at c
  have l:mX W inp ({s.nx with r2:=x}:Mc).nx=some (0,{({s.nx with r2:=x}:Mc).nx.nx with r1:=v}):=by
   rw[mJ (p:=4 *q+2) (by show s.pc+1+1=_;omega) u (by decide)];have e:gS ((({s.nx with r2:=x}:Mc).nx).r 2+128)=x+128:=by show gS (x+128)=_;rw[eP (by omega)]
   have k:(({s.nx with r2:=x}:Mc).nx).mem[(x+128).toNat]?=some v:=by rw[show(x+128).toNat=128+x.toNat by omega];exact z
   simp only[tX,e,k];rfl
  have n:=Tv (W:=W) (inp:=inp) (q:=q) (e:=d) (s:={({s.nx with r2:=x}:Mc).nx.nx with r1:=v}) (by show s.pc+1+1+1=_;omega) y (by omega) j;exact⟨_, .step g (.step c (.step l n)),rfl,rfl,rfl,rfl⟩
 rw[aL i]at c;exact⟨_,⟨_, .one g,c⟩,rfl⟩
theorem xQ {q d e:Nat} {o a b c v:Int} {rd:Nat} {s:Mc} (p:yG W (4 *q) (zH (d:Int) (gF o a b c) (e:Int))) (n:(0≤o∧o≤200)∧(0≤a∧a≤15)∧(0≤b∧b≤15)∧(0≤c∧c≤65535)) (l:s.pc=((4 *q:Nat):Int)) (hd:d≤200) (k:e≤200) (i:s.mem.length=4224)
  (j:tX inp o a b c (s.hd q d)=some (0,{(s.hd q d).nx with r1:=v,rd:=rd})): ∃f,Go W inp 4 s f∧f.pc=((4 *(q+1):Nat):Int)∧f.mem=s.mem.set (e+1) v∧f.rd=rd∧f.out=s.out:=by
 have g:=Jf p n l hd k i j (by show((4 *q+2:Nat):Int)+1=_;omega) i;exact⟨_,g,rfl,rfl,rfl,rfl⟩
theorem uN (f:Nm V A rs) {q len d e k:Nat} {s s1 s':Mc} {st':RS} {v:Int} (i:k≤4 *len) (g:Go W cx.inp k s s') (p:s'.pc=((4 *(q+len):Nat):Int)) (n:s'.mem=s1.mem.set (d+2) v) (a:MR V A rs st' s1) (t:s'.rd=s1.rd) (o:s'.out=s1.out) (l: ∀j,j<d+2→s1.mem[j]?=s.mem[j]?) (x:dX v) (u:st'.ticks=e) (hd:d≤90):ER V A rs W cx q len d e s (.val v st'):=by
 obtain⟨k1,c,k3,k4⟩:=Pi (v:=v) a.len hd;rw[←n]at k1 c k3 k4;exact⟨u,x,k,s',i,g,p,a.keep f k1 c t o,k3,fun j b=>by rw[k4 j b,l j b]⟩
theorem Oq (H:Nm V A rs) {J:Int} {e:Ex} (h:SX V A J e): ∀(q d n:Nat) (st:RS) (s:Mc) (r:Rz Int),(d:Int)≤J→yG W (4 *q) (iK (jQ (fR e)) q (zl d 0)).2→s.pc=((4 *q:Nat):Int)→MR V A rs st s→kT cx n rs [] e st=some r→ER V A rs W cx q (fR e).length d st.ticks s r:=by
 induction h with
 |num J m hl h=>
  intro q d n st s r hd p F l f
  cases n with
  |zero=>simp [kT]at f
  |succ n=>
  simp only[kT,cT,Option.some.injEq]at f;subst f;have z:fR (.mk 1 0 m [] [])=Lib.decDigits m.toNat++[32]:=by simp [fR,mG,jY]
  have hn:m.toNat<4294967296:=by have:=h.1;have:=h.2;omega
  have a5:((m.toNat:Nat):Int)=m:=Int.toNat_of_nonneg h.1;obtain⟨i1,i2⟩:=V9 (W:=W) m.toNat q d (by omega) hn;rw[z,jD]at p;obtain⟨S,t⟩:=jO p;rw[i1,gH]at t;have t:yG W (4 *(q+(Lib.decDigits m.toNat).length)) (iK [32] (q+(Lib.decDigits m.toNat).length) (zl d ((m.toNat:Nat):Int))).2:=t;rw[eL,(DR (by omega) (by omega)).1,a5]at t;obtain⟨s1,G,K,E,M,N⟩:=i2 (inp:=cx.inp) S F l.len;obtain⟨B,k1,u,k3,k4,D⟩:=OQ (inp:=cx.inp) t ⟨h.1,by have:=h.2;omega⟩ K (by omega) (by rw[E];exact l.len);rw[z,aH,bV];exact uN H (by omega) (G.app k1) (by rw[u,gE]) (by rw[k3,E]) l (k4.trans M) (D.trans N) (fun _ _=>rfl) h rfl (by omega)
 |var J c hl h hV=>
  intro q d n st s r hd p F l f
  cases n with
  |zero=>simp [kT]at f
  |succ n=>
  have z:fR (.mk 2 0 0 [c] [])=[c]:=by simp [fR,mG,jY]
  have hc:=H.lt c hV;obtain⟨v,v1,v2,v3⟩:=l.vars c hV;obtain⟨l1,l2⟩:=H.gl c hV;simp only[kT,Int.reduceEq,cT,dK,Pq,l1,l2,cH,v1,dY,Option.some.injEq]at f;subst f;rw[z]at p⊢;have p:yG W (4 *q) (iK [(c.toNat:Int)] q (zl d 0)).2:=p;rw[eL,(SI (by omega) (by omega)).1]at p
  obtain⟨B,k1,u,k3,k4,D⟩:=xQ (inp:=cx.inp) (e:=d+1) (v:=v) (rd:=s.rd) p (by omega) F (by omega) (by omega) l.len (by
   have e:gS ((s.hd q d).r 0+(c.toNat:Int))=(c.toNat:Int):=by show gS (0+(c.toNat:Int))=_;rw[Int.zero_add,eP (by omega)]
   have e2:(s.hd q d).mem[c.toNat]?=some v:=v3;simp only[tX,e,cC,e2]
   rfl)
  exact uN H (len:=1) (by omega) k1 u k3 l k4 D (fun _ _=>rfl) v2 rfl (by omega)
 |idx J a hl hA ha ih=>
  intro q d n st s r hd p F l f
  cases n with
  |zero=>simp [kT]at f
  |succ n=>
  have z:fR (.mk 3 0 0 [116] [a])=fR a++[64]:=by rw[fR,rZ];simp [jY]
  rw[z,jD]at p;obtain⟨S,t⟩:=jO p;rw[lO ha q d (by omega),gH]at t;have t:yG W (4 *(q+(fR a).length)) (iK [64] (q+(fR a).length) (zl ((d+1:Nat):Int) 0)).2:=t;rw[eL,(SJ (by omega)).1]at t;simp only[kT,Int.reduceEq,cT,dK,fA,H.ar hA]at f
  cases hx:kT cx n rs [] a st with
  |none=>rw[hx]at f;cases f
  |some ra=>
  rw[hx]at f;have I:=ih q d n st s ra (by omega) S F l hx;rw[z,aH,bV]
  cases ra with
  |fin x st1=>
   simp only[bindR,Option.some.injEq]at f;subst f;obtain⟨C,T,U,k,R,hk,O,P⟩:=I;exact⟨C,T,U,k,R,by omega,O,P⟩
  |val x st1=>
   obtain⟨C,Q,k,s1,hk,G,K,E,M,N⟩:=I;obtain⟨L,L1,L2,L3⟩:=E.arr hA;simp only[bindR,X1,Int.toNat_zero,L1,L2,Int.le_refl,cT]at f;obtain⟨a1,a2⟩:=XA (inp:=cx.inp) t M Q.1 K (by omega) E.len;by_cases c:x<4096
   ·obtain⟨v,v1,v2,v3⟩:=L3 x.toNat (by have:=Q.1;omega)
    rw[bH (by have:=Q.1;omega)]at f;simp only[L1,cA,v1,dY,Option.some.injEq]at f;subst f;obtain⟨B,k1,u,k3,k4,D⟩:=a1 v c v3;exact uN H (by omega) (G.app k1) (by rw[u,gE]) k3 E k4 D N v2 C (by omega)
   rw[aL (by have:=Q.1;omega)]at f;simp only[Option.some.injEq]at f;subst f;obtain⟨B,k1,u⟩:=a2 c;exact⟨C,by decide,by decide,k+1,B,by omega,Fin.after G k1,by rw[u,E.out]⟩
 |get J hl=>
  intro q d n st s r hd p F l f
  cases n with
  |zero=>simp [kT]at f
  |succ n=>
  have z:fR (.mk 5 0 0 [] [])=[63]:=by simp [fR,mG,jY]
  rw[z]at p⊢;have p:yG W (4 *q) (iK [63] q (zl d 0)).2:=p;rw[eL,(pH (A:=1997537280) (X:=gF 23 1 0 0) (g:=3) (by decide) (by decide) (by decide) (by decide) (by decide) (by decide) (by omega) (by omega)).1,show((d:Int)+3 - 2)=((d+1:Nat):Int)by omega]at p;simp only[kT,Int.reduceEq,cT,dK,Option.some.injEq,zI]at f;have a4:(s.hd q d).rd=st.read:=l.rd
  cases Y:cx.inp[st.read]? with
  |none=>
   rw[Y]at f;subst f
   obtain⟨B,k1,u,k3,k4,D⟩:=xQ (inp:=cx.inp) (e:=d+1) (v:=256) (rd:=s.rd) p (by decide) F (by omega) (by omega) l.len (by
    simp only[tX,a4,Y]
    rfl)
   exact uN H (len:=1) (by omega) k1 u k3 l k4 D (fun _ _=>rfl) (by simp [dX]) rfl (by omega)
  |some c=>
   rw[Y]at f;subst f
   obtain⟨B,k1,u,k3,k4,D⟩:=xQ (inp:=cx.inp) (e:=d+1) (v:=(c.toNat:Int)) (rd:=st.read+1) p (by decide) F (by omega) (by omega) l.len (by
    simp only[tX,a4,Y]
    rfl)
   have hc:=Vw c;exact uN H (len:=1) (s1:={s with rd:=s.rd+1}) (by omega) k1 u k3 ⟨l.len,by show s.rd+1=st.read+1;rw[l.rd],l.out,l.vars,l.arr⟩ (by rw[k4];show _=s.rd+1;rw[l.rd]) D (fun _ _=>rfl) (by simp only[dX];omega) rfl (by omega)
 |neg J a hl ha ih=>
  intro q d n st s r hd p F l f
  cases n with
  |zero=>simp [kT]at f
  |succ n=>
  have z:fR (.mk 7 0 0 [] [a])=fR a++[33]:=by rw[fR,rZ];simp [jY]
  rw[z,jD]at p;obtain⟨S,t⟩:=jO p;rw[lO ha q d (by omega),gH]at t;have t:yG W (4 *(q+(fR a).length)) (iK [33] (q+(fR a).length) (zl ((d+1:Nat):Int) 0)).2:=t;rw[eL,(pH (A:=1326579712) (X:=gF 15 1 2 0) (g:=2) (by decide) (by decide) (by decide) (by decide) (by decide) (by decide) (by omega) (by omega)).1,show(((d+1:Nat):Int)+2 - 2)=((d+1:Nat):Int)by omega]at t;simp only[kT,Int.reduceEq,cT,dK,fA]at f
  cases hx:kT cx n rs [] a st with
  |none=>rw[hx]at f;cases f
  |some ra=>
  rw[hx]at f;have I:=ih q d n st s ra (by omega) S F l hx;rw[z,aH,bV]
  cases ra with
  |fin x st1=>
   simp only[bindR,Option.some.injEq]at f;subst f;obtain⟨C,T,U,k,R,hk,O,P⟩:=I;exact⟨C,T,U,k,R,by omega,O,P⟩
  |val x st1=>
   obtain⟨C,Q,k,s1,hk,G,K,E,M,N⟩:=I;simp only[bindR,Option.some.injEq]at f;subst f
   obtain⟨B,k1,u,k3,k4,D⟩:=xQ (inp:=cx.inp) (e:=d+1) (v:=if x=0 then 1 else 0) (rd:=s1.rd) t (by decide) K (by omega) (by omega) E.len (by
    have e2:(s1.hd (q+(fR a).length) (d+1)).r 2=x:=Mc.m_some M;have e3:(s1.hd (q+(fR a).length) (d+1)).r 0=0:=rfl;simp only[tX,e2,e3,Uw]
    rfl)
   exact uN H (by omega) (G.app k1) (by rw[u,gE]) k3 E k4 D N (by split<;>simp [dX]) C (by omega)
 |op J o a b hl h ha hb iha ihb=>
  intro q d n st s r hd p F l f
  cases n with
  |zero=>simp [kT]at f
  |succ n=>
  obtain⟨c,hc,hz⟩:=SG h;have z:fR (.mk 6 o 0 [] [a,b])=fR a++(fR b++[c]):=by rw[fR,Vy];simp [jY,hc]
  rw[z,jD,jD]at p;obtain⟨S,t⟩:=jO p;rw[lO ha q d (by omega),gH]at t;obtain⟨t,Z⟩:=jO t;rw[lO hb _ (d+1) (by omega),gH]at Z;have Z:yG W (4 *(q+(fR a).length+(fR b).length)) (iK [(c.toNat:Int)] (q+(fR a).length+(fR b).length) (zl ((d+1+1:Nat):Int) 0)).2:=Z;rw[eL,(hz (by omega)).1,show(((d+1+1:Nat):Int)- 1)=((d+1:Nat):Int)by omega]at Z;simp only[kT,Int.reduceEq,cT,dK,fA,kV]at f;rw[z,aH,aH,bV]
  cases hx:kT cx n rs [] a st with
  |none=>rw[hx]at f;cases f
  |some ra=>
  rw[hx]at f;have I:=iha q d n st s ra (by omega) S F l hx
  cases ra with
  |fin x st1=>
   simp only[bindR,Option.some.injEq]at f;subst f;obtain⟨C,T,U,k,R,hk,O,P⟩:=I;exact⟨C,T,U,k,R,by omega,O,P⟩
  |val x st1=>
  obtain⟨C,Q,k,s1,hk,G,K,E,M,N⟩:=I;simp only[bindR]at f
  cases hy:kT cx n rs [] b st1 with
  |none=>rw[hy]at f;cases f
  |some rb=>
  rw[hy]at f;have hF:=ihb (q+(fR a).length) (d+1) n st1 s1 rb (by omega) t K E hy
  cases rb with
  |fin y st2=>
   simp only[Option.some.injEq]at f;subst f;obtain⟨t2,T,U,u,R,a7,O,P⟩:=hF;exact⟨t2.trans C,T,U,k+u,R,by omega,Fin.after G O,P⟩
  |val y st2=>
   obtain⟨t2,hv,j,B,hj,j1,j2,j3,j4,j5⟩:=hF;have a6:B.mem[d+2]?=some x:=by rw[j5 _ (by omega)];exact M
   have e2:(B.hd (q+(fR a).length+(fR b).length) (d+1+1)).r 2=y:=Mc.m_some j4;have e3:(B.hd (q+(fR a).length+(fR b).length) (d+1+1)).r 1=x:=Mc.m_some a6
   have a0:tX cx.inp o 1 1 2 (B.hd (q+(fR a).length+(fR b).length) (d+1+1))=if(eR o x y).2=0 then(B.hd (q+(fR a).length+(fR b).length) (d+1+1)).set 1 (eR o x y).1 else some (2,(B.hd (q+(fR a).length+(fR b).length) (d+1+1)).stp):=by
    unfold tX;rw[aL (by omega),aL (by omega),aL (by omega),bH h,e2,e3]
   by_cases a3:(eR o x y).2=0
   ·rw[bH a3]at a0
    simp only[a3,cT,Option.some.injEq]at f;subst f;obtain⟨s3,k1,u,k3,k4,D⟩:=xQ (inp:=cx.inp) (e:=d+1) (v:=(eR o x y).1) (rd:=B.rd) Z (by omega) j2 (by omega) (by omega) j3.len (by rw[a0];rfl);refine uN H (by omega) ((G.app j1).app k1) (by rw[u];simp only[gE]) k3 j3 k4 D (fun i Y=>by rw[j5 i (by omega),N i Y]) (Lh o Q hv) (t2.trans C) (by omega)
   rw[aL a3]at a0;simp only[a3,dK,Option.some.injEq]at f;subst f;obtain⟨k1,u⟩:=Aj (inp:=cx.inp) Z (by omega) j2 (by omega) j3.len;exact⟨t2.trans C,by decide,by decide,k+j+2,_,by omega,⟨_,(G.app j1).app k1,u.trans a0⟩,j3.out⟩
end
section
mutual
def yN:Nat→Sm→List Int
 |b, .mk k s l t _=>
  if k=1 then jQ (mG l)++([58]++jQ s)
  else if k=2 then jQ (mG l)++[35]
  else if k=3 then jQ (mG l)++[46]
  else if k=4 then jQ (mG l)++([857735172+4 *((b+(mG l).length+1+(jX t).length:Nat):Int)]++(qD (b+(mG l).length+1) t++[70]))
  else [87]++(jQ (mG l)++([857735172+4 *((b+1+(mG l).length+1+(jX t).length:Nat):Int)]++(qD (b+1+(mG l).length+1) t++[69])))
def qD:Nat→List Sm→List Int
 |_,[]=>[]
 |b,s::l=>yN b s++qD (b+(pX s).length) l
end
def vH (c:UInt8):Prop:=c≠68∧c≠73∧c≠69∧c≠70
theorem pV: ∀(u:dC),(∀c∈u,vH c)→ ∀(T:List Int) (o:Int),yE u (T,o)=some (T++jQ u,o)
 |[],_,T,o=>by simp [yE,jQ]
 |c::u,h,T,o=>by
  obtain⟨a,b,d,f⟩:=h c (fK)
  have e:U8 c (T,o)=some (T++[(c.toNat:Int)],o):=by
   unfold U8;rw[aL (by simp [a,b]),aL (by simp [d,f])]
  simp only[yE,e,cA];rw[pV u (fun x g=>h x (eZ _ g))];simp [jQ]
theorem LG (n:Nat): ∀c∈Lib.decDigits n,vH c∧48≤c.toNat∧c.toNat≤57:=by
 induction n using Nat.strongRecOn with
 |_ n ih=>
  have one: ∀k:Nat,k<10→vH (UInt8.ofNat (48+k))∧48≤(UInt8.ofNat (48+k)).toNat∧(UInt8.ofNat (48+k)).toNat≤57:=fun k b=>by
   have :k=0∨k=1∨k=2∨k=3∨k=4∨k=5∨k=6∨k=7∨k=8∨k=9:=by omega
   rcases this with rfl|rfl|rfl|rfl|rfl|rfl|rfl|rfl|rfl|rfl<;>exact⟨⟨by decide,by decide,by decide,by decide⟩,by decide,by decide⟩
  intro c a;rw[Lib.decDigits]at a;split at a
  ·rename_i h
   rw[bD]at a;subst a;exact one n h
  rw[eV,bD]at a;rcases a with a|rfl
  ·exact ih _ (by omega) c a
  exact one _ (sB _ (by decide))
section
variable {V : UInt8 → Prop} {A : Prop}
theorem xJ {g:Int} {e:Ex} (h:SX V A g e): ∀c∈fR e,vH c:=by
 have i: ∀k:UInt8,vH k→ ∀c∈[k],vH c:=fun k p c f=>by rw[bD]at f;subst f;exact p
 have Rm: ∀{a b:dC},(∀c∈a,vH c)→(∀c∈b,vH c)→ ∀c∈a++b,vH c:=fun j l c f=>by
  rcases eV.1 f with h|h
  ·exact j c h
  exact l c h
 induction h with
 |num g n hl h=>
  have d:fR (.mk 1 0 n [] [])=Lib.decDigits n.toNat++[32]:=by simp [fR,mG,jY]
  rw[d];exact Rm (fun c f=>(LG _ c f).1) (i 32 ⟨by decide,by decide,by decide,by decide⟩)
 |var g c hl h hV=>
  have d:fR (.mk 2 0 0 [c] [])=[c]:=by simp [fR,mG,jY]
  have f:97≤c.toNat∧c.toNat≤122:=by simp only[Ym,bC,bJ]at h;exact h
  rw[d];refine i c ⟨fun e=>?_,fun e=>?_,fun e=>?_,fun e=>?_⟩<;>(rw[e]at f;exact absurd f.1 (by decide))
 |idx g a hl hA j ih=>
  have d:fR (.mk 3 0 0 [116] [a])=fR a++[64]:=by rw[fR,rZ];simp [jY]
  rw[d];exact Rm ih (i 64 ⟨by decide,by decide,by decide,by decide⟩)
 |get g hl=>
  have d:fR (.mk 5 0 0 [] [])=[63]:=by simp [fR,mG,jY]
  rw[d];exact i 63 ⟨by decide,by decide,by decide,by decide⟩
 |neg g a hl j ih=>
  have d:fR (.mk 7 0 0 [] [a])=fR a++[33]:=by rw[fR,rZ];simp [jY]
  rw[d];exact Rm ih (i 33 ⟨by decide,by decide,by decide,by decide⟩)
 |op g o a b hl h j l iha ihb=>
  have u: ∃c:UInt8,opS[(o- 4).toNat]?=some c∧vH c:=by
   have :o=4∨o=5∨o=6∨o=7∨o=8∨o=9∨o=10∨o=11∨o=12∨o=13∨o=14∨o=15:=by omega
   rcases this with rfl|rfl|rfl|rfl|rfl|rfl|rfl|rfl|rfl|rfl|rfl|rfl<;>exact⟨_,rfl,by decide,by decide,by decide,by decide⟩
  obtain⟨c,f,t⟩:=u;have d:fR (.mk 6 o 0 [] [a,b])=fR a++(fR b++[c]):=by rw[fR,Vy];simp [jY,f]
  rw[d];exact Rm iha (Rm ihb (i c t))
theorem SY (c:UInt8) (e:Ex):pX (.mk 1 [c] [e] [] [])=fR e++[58,c]:=by simp [pX,rZ]
theorem SV (a e:Ex):pX (.mk 2 [116] [a,e] [] [])=fR a++(fR e++[35]):=by simp [pX,Vy]
theorem SU (e:Ex):pX (.mk 3 [] [e] [] [])=fR e++[46]:=by simp [pX,rZ]
theorem E7 (e:Ex) (t:List Sm):pX (.mk 4 [] [e] t [])=fR e++([73]++(jX t++[70])):=by simp [pX,rZ]
theorem E6 (e:Ex) (t:List Sm):pX (.mk 5 [] [e] t [])=[87]++(fR e++([68]++(jX t++[69]))):=by simp [pX,rZ]
theorem AP (b:Nat) (c:UInt8) (e:Ex):yN b (.mk 1 [c] [e] [] [])=jQ (fR e)++([58]++[(c.toNat:Int)]):=by simp [yN,rZ,jQ]
theorem AO (b:Nat) (a e:Ex):yN b (.mk 2 [116] [a,e] [] [])=jQ (fR a)++(jQ (fR e)++[35]):=by simp [yN,Vy,jQ]
theorem AN (b:Nat) (e:Ex):yN b (.mk 3 [] [e] [] [])=jQ (fR e)++[46]:=by simp [yN,rZ]
theorem AM (b:Nat) (e:Ex) (t:List Sm):yN b (.mk 4 [] [e] t [])=jQ (fR e)++([857735172+4 *((b+(fR e).length+1+(jX t).length:Nat):Int)]++(qD (b+(fR e).length+1) t++[70])):=by simp [yN,rZ]
theorem AK (b:Nat) (e:Ex) (t:List Sm):yN b (.mk 5 [] [e] t [])=[87]++(jQ (fR e)++([857735172+4 *((b+1+(fR e).length+1+(jX t).length:Nat):Int)]++(qD (b+1+(fR e).length+1) t++[69]))):=by simp [yN,rZ]
theorem qQ: ∀{l:List Sm} {b:Nat},(∀s∈l, ∀b,(yN b s).length=(pX s).length)→(qD b l).length=(jX l).length
 |[],_,_=>rfl
 |s::l,b,h=>by
  rw[qD,jX,aH,aH,h s (fK),qQ fun x a=>h x (eZ _ a)]
theorem jN {d:Int} {m:Sm} (h:SS V A d m): ∀b,(yN b m).length=(pX m).length:=by
 induction h with
 |set d c e hl hc hV he=>intro b;rw[AP,SY];simp [gH]
 |store d a e hl hA ha he=>intro b;rw[AO,SV];simp [gH]
 |put d e hl he=>intro b;rw[AN,SU];simp [gH]
 |cond d e t hl he ht ih=>intro b;rw[AM,E7];simp [gH,qQ ih]
 |loop d e t hl he ht ih=>intro b;rw[AK,E6];simp [gH,qQ ih]
theorem Yd {X Y:List Int} {o:Int} (c:UInt8) (a:c=69∨c=70):U8 c ((X++[o])++Y,(X.length:Int))=some (X++([857735172+4 *((X.length+1+Y.length:Nat):Int)]++(Y++[(c.toNat:Int)])),o):=by
 unfold U8;have b: ¬(c=68∨c=73):=by rcases a with rfl|rfl<;>decide
 rw[aL b,bH a,bH (by show(0:Int)≤(X.length:Int);omega)]
 have d:((X++[o])++Y)[(X.length:Int).toNat]?=some o:=by
  rw[cC,bU,jA (bI _)];simp
 simp only[cC];congr 2;rw[bU,bU,List.set_append_right _ _ (bI _)];simp [aH,Nat.add_comm];omega
theorem U6 (c:UInt8) (p:List Int×Int):yE [c] p=U8 c p:=by
 simp only[yE];cases U8 c p<;>rfl
theorem XT: ∀{l:List Sm},(∀m∈l, ∀T o,yE (pX m) (T,o)=some (T++yN T.length m,o)∧(yN T.length m).length=(pX m).length)→ ∀T o,yE (jX l) (T,o)=some (T++qD T.length l,o)
 |[],_,T,o=>by simp [jX,qD,yE]
 |m::l,h,T,o=>by
  obtain⟨a,b⟩:=h m (fK) T o;rw[jX,lY,a,cA,XT (fun x c=>h x (eZ _ c)),qD,aH,b,bU]
theorem ZN {g:Int} {m:Sm} (h:SS V A g m): ∀T o,yE (pX m) (T,o)=some (T++yN T.length m,o):=by
 have y: ∀(k:UInt8),vH k→ ∀T o,yE [k] (T,o)=some (T++[(k.toNat:Int)],o):=fun k F T o=>pV [k] (fun c d=>by rw[bD]at d;subst d;exact F) T o;have z: ∀{t:List Sm} {g:Int},(∀s∈t,SS V A g s)→(∀s∈t, ∀T o,yE (pX s) (T,o)=some (T++yN T.length s,o))→ ∀s∈t, ∀T o,yE (pX s) (T,o)=some (T++yN T.length s,o)∧(yN T.length s).length=(pX s).length:=fun i n s j T o=>⟨n s j T o,jN (i s j) _⟩
 induction h with
 |set g c e hl d hV he=>
  intro T o;have f:97≤c.toNat∧c.toNat≤122:=by simp only[Ym,bC,bJ]at d;exact d
  have G:vH c:=⟨fun e=>(by rw[e]at f;exact absurd f.1 (by decide)),fun e=>(by rw[e]at f;exact absurd f.1 (by decide)),fun e=>(by rw[e]at f;exact absurd f.1 (by decide)),fun e=>(by rw[e]at f;exact absurd f.1 (by decide))⟩
  rw[SY,AP,lY,pV _ (xJ he),cA,pV [58,c] (fun x B=>by
   simp only[bP,bO,dF]at B;rcases B with rfl|rfl
   ·exact⟨by decide,by decide,by decide,by decide⟩
   exact G)]
  simp [jQ]
 |store g a e hl hA ha he=>
  intro T o;rw[SV,AO,lY,pV _ (xJ ha),cA,lY,pV _ (xJ he),cA,y 35 ⟨by decide,by decide,by decide,by decide⟩];simp
 |put g e hl he=>
  intro T o;rw[SU,AN,lY,pV _ (xJ he),cA,y 46 ⟨by decide,by decide,by decide,by decide⟩];simp
 |cond g e t hl he i n=>
  intro T o;have v:=qQ (b:=T.length+(fR e).length+1) fun s j=>jN (i s j);have l:=XT (z i n) ((T++jQ (fR e))++[o]) ((T++jQ (fR e)).length:Int);have p:((T++jQ (fR e))++[o]).length=T.length+(fR e).length+1:=by simp only[aH,gH,bV]
  have u:(T++jQ (fR e)).length=T.length+(fR e).length:=by simp [gH]
  rw[p]at l;have d:=Yd (X:=T++jQ (fR e)) (Y:=qD (T.length+(fR e).length+1) t) (o:=o) 70 (.inr rfl);have D:yE [73] (T++jQ (fR e),o)=some ((T++jQ (fR e))++[o],((T++jQ (fR e)).length:Int)):=by simp [yE,U8]
  rw[E7,AM,lY,pV _ (xJ he),cA,lY,D,cA,lY,l,cA,U6,d,u,v];simp [gE]
 |loop g e t hl he i n=>
  intro T o;have v:=qQ (b:=T.length+1+(fR e).length+1) fun s j=>jN (i s j);have l:=XT (z i n) (((T++[87])++jQ (fR e))++[o]) (((T++[87])++jQ (fR e)).length:Int);have p:(((T++[87])++jQ (fR e))++[o]).length=T.length+1+(fR e).length+1:=by simp [gH];omega
  have u:((T++[87])++jQ (fR e)).length=T.length+1+(fR e).length:=by simp [gH];omega
  rw[p]at l;have d:=Yd (X:=(T++[87])++jQ (fR e)) (Y:=qD (T.length+1+(fR e).length+1) t) (o:=o) 69 (.inl rfl);have E:yE [87] (T,o)=some (T++[87],o):=y 87 ⟨by decide,by decide,by decide,by decide⟩ T o;have C:yE [68] ((T++[87])++jQ (fR e),o)=some (((T++[87])++jQ (fR e))++[o],(((T++[87])++jQ (fR e)).length:Int)):=by simp [yE,U8]
  rw[E6,AK,lY,E,cA,lY,pV _ (xJ he),cA,lY,C,cA,lY,l,cA,U6,d,u,v];simp [gE]
theorem OC {d:Int} {l:List Sm} (h: ∀m∈l,SS V A d m):yE (jX l++[36]) ([],0)=some (qD 0 l++[36],0):=by
 rw[lY,XT (fun m b T o=>⟨ZN (h m b) T o,jN (h m b) _⟩),cA];rw[pV [36] (fun c a=>by rw[bD]at a;subst a;exact⟨by decide,by decide,by decide,by decide⟩)];rfl
theorem Dq (u:dC): ∀x∈jQ u,0≤x∧x<4294967296:=fun x a=>by
 obtain⟨c,_,rfl⟩:=jL.1 a;have:=Vw c;omega
theorem U5 {N:Nat} (a:N≤3000): ∀{l:List Sm} {b:Nat},(∀m∈l, ∀b,b+(pX m).length≤N→ ∀x∈yN b m,0≤x∧x<4294967296)→b+(jX l).length≤N→ ∀x∈qD b l,0≤x∧x<4294967296
 |[],_,_,_,x,hx=>by simp [qD]at hx
 |m::l,b,h,hb,x,hx=>by
  rw[jX,aH]at hb;rw[qD,eV]at hx;rcases hx with hx|hx
  ·exact h m (fK) b (by omega) x hx
  exact U5 a (fun y c=>h y (eZ _ c)) (by omega) x hx
theorem WT {N:Nat} (j:N≤3000) {g:Int} {m:Sm} (h:SS V A g m): ∀b,b+(pX m).length≤N→ ∀x∈yN b m,0≤x∧x<4294967296:=by
 have f: ∀k:Int,0≤k∧k<4294967296→ ∀x∈[k],0≤x∧x<4294967296:=fun k n x i=>by rw[bD]at i;subst i;exact n
 have Rm: ∀{a b:List Int},(∀x∈a,0≤x∧x<4294967296)→(∀x∈b,0≤x∧x<4294967296)→ ∀x∈a++b,0≤x∧x<4294967296:=fun l d x i=>by
  rcases eV.1 i with h|h
  ·exact l x h
  exact d x h
 induction h with
 |set g c e hl hc hV he=>intro b d;rw[AP];have:=Vw c;exact Rm (Dq _) (Rm (f _ (by decide)) (f _ (by omega)))
 |store g a e hl hA l he=>intro b d;rw[AO];exact Rm (Dq _) (Rm (Dq _) (f _ (by decide)))
 |put g e hl he=>intro b d;rw[AN];exact Rm (Dq _) (f _ (by decide))
 |cond g e t hl he ht ih=>
  intro b d;rw[E7]at d;simp only[aH,aQ,aV]at d;rw[AM];exact Rm (Dq _) (Rm (f _ (by omega)) (Rm (U5 j ih (by omega)) (f _ (by decide))))
 |loop g e t hl he ht ih=>
  intro b d;rw[E6]at d;simp only[aH,aQ,aV]at d;rw[AK];exact Rm (f _ (by decide)) (Rm (Dq _) (Rm (f _ (by omega)) (Rm (U5 j ih (by omega)) (f _ (by decide)))))
end
end
end Go.Proofs.YtaecpjgmcffliaaGreatDoor
