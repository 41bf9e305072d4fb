/- The kernel machine, part S: values with bytes packed in one number, and a state machine that the kernel runs on closed data. -/
import Derived.Test.YtfkboondffejaaaGreatDoorE02
import Derived.Test.YtfkboondffejaaaGreatDoorE03
set_option linter.all false
set_option linter.unusedVariables false
set_option linter.unusedSimpArgs false
set_option linter.deprecated false
set_option linter.unusedVariables false
set_option linter.unusedSimpArgs false
namespace Go.Proofs.YtfkboondffejaaaGreatDoor
namespace Sg
noncomputable section
inductive Pos : Type
  | h
  | o (p : Pos)
  | i (p : Pos)
inductive KV : Type
  | int (k : IntKind) (n : Int)
  | byte (n : Nat)
  | bool (b : Bool)
  | str (len n : Nat)
  | nilptr | nilsl | nilmap | nilfn | nilif
  | ptr (n : Pos) (off : Nat)
  | ixp (n : Pos) (off sz i : Nat)
  | sl (sz : Nat) (n : Pos) (off len : Nat)
  | slx (sz : Nat) (n : Pos) (off len cap : Nat)
  | map (n : Pos)
  | ip (cs : List KV)
  | agg (cs : List KV)
  | tup (vs : List KV)
  | sbs (len n : Nat)
  | sis (k : IntKind) (len : Nat) (l : List Int)
  | fn (f : Nat)
inductive KObj : Type
  | cells (cs : List KV)
  | bytes (len n : Nat)
  | arr (sz len : Nat) (l : List (List KV))
  | mp (es : List (KV × KV))
inductive KH : Type
  | nil
  | nd (l : KH) (v : Option KObj) (r : KH)
abbrev KP := List (Nat × Pos × KObj)
inductive KT : Type
  | nil
  | lf (v : KV)
  | nd (l r : KT)
inductive KK : Type
  | done (res : List RV)
  | seq (b : CC) (k : KK)
  | block (id : Nat) (k : KK)
  | loop (a : CC) (k : KK)
  | call (fr : KT) (o : ROp) (os : List ROp) (res : List RV) (k : KK)
  | dcall (fr : KT) (o : ROp) (re : List (Nat × ROp)) (ds : List DStep) (p : KP) (res : List RV) (k : KK)
inductive KSt : Type
  | code (c : CC) (k : KK) (fr : KT) (S : KH) (nx : Pos)
  | ops (os : List ROp) (k : KK) (fr : KT) (S : KH) (nx : Pos)
  | dops (ds : List DStep) (p : KP) (k : KK) (fr : KT) (S : KH) (nx : Pos)
  | exit (x : Xt) (k : KK) (fr : KT) (S : KH) (nx : Pos)
  | fin (v : KV) (S : KH) (nx : Pos)
abbrev R := Option KSt
def Pos.succR (p : Pos) : (Pos → R) → R :=
  Pos.rec (motive := fun _ => (Pos → R) → R) (fun K => K (.o .h)) (fun p _ K => K (.i p)) (fun _ ih K => ih fun q => K (.o q)) p
def Pos.eqb : Pos → Pos → Bool
  | .h, .h => true
  | .o p, .o q => Pos.eqb p q
  | .i p, .i q => Pos.eqb p q
  | _, _ => false
def KT.getR (t : KT) : Pth → (KV → R) → R :=
  KT.rec (motive := fun _ => Pth → (KV → R) → R) (fun _ _ => none) (fun v p k => Pth.casesOn p (k v) (fun _ => none) (fun _ => none))
   (fun _ _ il ir p k => Pth.casesOn p none (fun p => il p k) (fun p => ir p k)) t
def KT.setR (t : KT) : Pth → KV → (KT → R) → R :=
  KT.rec (motive := fun _ => Pth → KV → (KT → R) → R) (fun _ _ _ => none) (fun _ p v k => Pth.casesOn p (k (.lf v)) (fun _ => none) (fun _ => none))
   (fun l r il ir p v k => Pth.casesOn p none (fun p => il p v fun l => k (.nd l r)) (fun p => ir p v fun r => k (.nd l r))) t
def KH.getR (S : KH) : Pos → (KObj → R) → R :=
  KH.rec (motive := fun _ => Pos → (KObj → R) → R) (fun _ _ => none)
   (fun _ v _ il ir p k => Pos.casesOn p (Option.casesOn v none fun o => k o) (fun p => il p k) (fun p => ir p k)) S
def KH.setR (p : Pos) : KH → KObj → (KH → R) → R :=
  Pos.rec (motive := fun _ => KH → KObj → (KH → R) → R) (fun S x k => KH.casesOn S (k (.nd .nil (some x) .nil)) (fun l _ r => k (.nd l (some x) r)))
   (fun p ih S x k => KH.casesOn S (ih .nil x fun l => k (.nd l none .nil)) (fun l v r => ih l x fun l => k (.nd l v r)))
   (fun p ih S x k => KH.casesOn S (ih .nil x fun r => k (.nd .nil none r)) (fun l v r => ih r x fun r => k (.nd l v r))) p
def KH.delR (p : Pos) : KH → (KH → R) → R :=
  Pos.rec (motive := fun _ => KH → (KH → R) → R) (fun S k => KH.casesOn S (k .nil) (fun l _ r => k (.nd l none r)))
   (fun p ih S k => KH.casesOn S (k .nil) (fun l v r => ih l fun l => k (.nd l v r)))
   (fun p ih S k => KH.casesOn S (k .nil) (fun l v r => ih r fun r => k (.nd l v r))) p
def KH.newR (S : KH) (nx : Pos) (x : KObj) (k : KH → Pos → R) : R := KH.setR nx S x fun S => Pos.succR nx fun nx => k S nx
def forR (n : Nat) (K : Nat → R) : R := Nat.casesOn n (K 0) (fun m => K (Nat.succ m))
def gd (b : Bool) (r : R) : R := @Bool.rec (fun _ => R) none r b
def pget (N i : Nat) : Nat := Nat.mod (Nat.shiftRight N (Nat.mul 8 i)) 256
def psub (N i n : Nat) : Nat := Nat.mod (Nat.shiftRight N (Nat.mul 8 i)) (Nat.pow 2 (Nat.mul 8 n))
def papp (len N M : Nat) : Nat := Nat.add N (Nat.shiftLeft M (Nat.mul 8 len))
def pset (N i b : Nat) : Nat := Nat.add (Nat.mod N (Nat.pow 2 (Nat.mul 8 i))) (Nat.shiftLeft (Nat.add b (Nat.mul 256 (Nat.shiftRight N (Nat.mul 8 (Nat.add i 1))))) (Nat.mul 8 i))
def packL : List UInt8 → Nat
  | [] => 0
  | b :: l => Nat.add b.toNat (Nat.mul 256 (packL l))
def kcst_int (k : IntKind) (n : Int) (K : KV → R) : R := K (.int k n)
def kcst_byte (b : UInt8) (K : KV → R) : R := forR b.toNat fun n => K (.byte n)
def kcst_bool (b : Bool) (K : KV → R) : R := K (.bool b)
def kcst_str (l : List UInt8) (K : KV → R) : R := forR l.length fun n => forR (packL l) fun m => K (.str n m)
def kcst_sbs (n : Nat) (l : List UInt8) (K : KV → R) : R := gd (Nat.beq l.length n) (forR (packL l) fun m => K (.sbs n m))
def kcst_sis (k : IntKind) (n : Nat) (l : List Int) (K : KV → R) : R := gd (Nat.beq l.length n) (K (.sis k n l))
def kcst_iv (x : IV) (K : KV → R) : R := @IV.casesOn (fun _ => (KV → R) → R) x kcst_int kcst_byte kcst_bool kcst_str (fun K => K .nilptr) (fun K => K .nilsl) (fun K => K .nilmap) (fun K => K .nilfn) (fun K => K .nilif)
  (fun _ _ => none) (fun _ _ _ _ => none) (fun _ _ => none) kcst_sbs kcst_sis K
def kcst_fn (f : Nat) (cs : List SV) (K : KV → R) : R := match cs with
  | [] => K (.fn f)
  | _ => none
def kcst (v : SV) (K : KV → R) : R := @SV.casesOn (fun _ => (KV → R) → R) v kcst_iv (fun _ _ _ => none) (fun _ _ _ _ _ => none) (fun _ _ _ _ _ => none) (fun _ _ _ _ _ _ => none) (fun _ _ => none) (fun _ _ => none) (fun _ _ => none) kcst_fn (fun _ _ _ => none) (fun _ => none) K
def kcsts (xs : List SV) : (List KV → R) → R :=
  List.rec (motive := fun _ => (List KV → R) → R) (fun K => K []) (fun x _ ih K => kcst x fun v => ih fun vs => K (v :: vs)) xs
def kz (z : SV) (K : KV → R) : R := match z with
  | .agg cs => kcsts cs fun cs => K (.agg cs)
  | z => kcst z K
abbrev KG := Nat → Option (List KV)
def kev_t (p : Pth) (G : KG) (fr : KT) (K : KV → R) : R := KT.getR fr p K
def kev_k (v : SV) (G : KG) (fr : KT) (K : KV → R) : R := kcst v K
def kev_g (n : Nat) (G : KG) (fr : KT) (K : KV → R) : R := match G n with
  | some cs => K (.ip cs)
  | none => none
def kev (G : KG) (fr : KT) (x : Opd) (K : KV → R) : R := @Opd.rec (fun _ => KG → KT → (KV → R) → R) kev_t kev_k kev_g x G fr K
def kevs (G : KG) (fr : KT) (xs : List Opd) : (List KV → R) → R :=
  List.rec (motive := fun _ => (List KV → R) → R) (fun K => K []) (fun x _ ih K => kev G fr x fun v => ih fun vs => K (v :: vs)) xs
def knat (v : KV) (K : Nat → R) : R := match v with
  | .int _ (.ofNat n) => K n
  | .byte n => K n
  | _ => none
def koNat (G : KG) (fr : KT) (x : Option Opd) (d : Nat) (K : Nat → R) : R := match x with
  | none => K d
  | some x => kev G fr x fun v => knat v K
def kcells (v : KV) (K : List KV → R) : R := match v with
  | .agg cs => K cs
  | .tup _ => none
  | .sbs .. => none
  | .sis .. => none
  | x => K [x]
def ksingle (v : KV) (K : KV → R) : R := match v with
  | .agg _ => none
  | .tup _ => none
  | .sbs .. => none
  | .sis .. => none
  | x => K x
def kvc {α : Type} (v : KV) (b : Nat → Nat → α) (i : IntKind → Nat → List Int → α) (e : α) : α :=
  KV.casesOn (motive_1 := fun _ => α) v (fun _ _ => e) (fun _ => e) (fun _ => e) (fun _ _ => e) e e e e e (fun _ _ => e) (fun _ _ _ _ => e) (fun _ _ _ _ => e) (fun _ _ _ _ _ => e) (fun _ => e) (fun _ => e) (fun _ => e) (fun _ => e) b i (fun _ => e)
def kncells (xs : List KV) : Nat :=
  List.rec (motive := fun _ => Nat) 0 (fun x _ ih => kvc x (fun n _ => Nat.add n ih) (fun _ n _ => Nat.add n ih) (Nat.succ ih)) xs
def kgetI (l : List Int) : Nat → (Int → R) → R :=
  List.rec (motive := fun _ => Nat → (Int → R) → R) (fun _ _ => none) (fun x _ ih n K => Nat.casesOn n (K x) fun n => ih n K) l
def ksetI (l : List Int) : Nat → Int → (List Int → R) → R :=
  List.rec (motive := fun _ => Nat → Int → (List Int → R) → R) (fun _ _ _ => none) (fun x l ih n v K => Nat.casesOn n (K (v :: l)) fun n => ih n v fun r => K (x :: r)) l
def kcell (xs : List KV) : Nat → (KV → R) → R :=
  List.rec (motive := fun _ => Nat → (KV → R) → R) (fun _ _ => none) (fun x xs ih off k => kvc x
    (fun n l => bif Nat.blt off n then forR (pget l off) fun b => k (.byte b) else ih (Nat.sub off n) k)
    (fun kd n l => bif Nat.blt off n then kgetI l off fun x => k (.int kd x) else ih (Nat.sub off n) k)
    (Nat.casesOn off (k x) fun off => ih off k)) xs
def ktake (xs : List KV) : Nat → (List KV → R) → R :=
  List.rec (motive := fun _ => Nat → (List KV → R) → R) (fun n k => Nat.casesOn n (k []) fun _ => none) (fun x xs ih n k => Nat.casesOn n (k []) fun n => kvc x
    (fun m l => gd (Nat.blt 0 m) (bif Nat.ble m (n + 1) then ih (Nat.sub (n + 1) m) fun r => k (.sbs m l :: r) else forR (psub l 0 (n + 1)) fun l => k [.sbs (n + 1) l]))
    (fun kd m l => gd (Nat.blt 0 m) (bif Nat.ble m (n + 1) then ih (Nat.sub (n + 1) m) fun r => k (.sis kd m l :: r) else k [.sis kd (n + 1) (l.take (n + 1))]))
    (ih n fun r => k (x :: r))) xs
def kdrop (xs : List KV) : Nat → (List KV → R) → R :=
  List.rec (motive := fun _ => Nat → (List KV → R) → R) (fun n k => Nat.casesOn n (k []) fun _ => none) (fun x xs ih n k => Nat.casesOn n (k (x :: xs)) fun n => kvc x
    (fun m l => bif Nat.ble m (n + 1) then ih (Nat.sub (n + 1) m) k else forR (Nat.shiftRight l (Nat.mul 8 (n + 1))) fun l => k (.sbs (Nat.sub m (n + 1)) l :: xs))
    (fun kd m l => bif Nat.ble m (n + 1) then ih (Nat.sub (n + 1) m) k else k (.sis kd (Nat.sub m (n + 1)) (l.drop (n + 1)) :: xs))
    (ih n k)) xs
def tagK (k : IntKind) : Nat := match k with | .i8 => 0 | .i16 => 1 | .i32 => 2 | .i64 => 3 | .u8 => 4 | .u16 => 5 | .u32 => 6 | .u64 => 7
def eqIK (k k' : IntKind) : Bool := Nat.beq (tagK k) (tagK k')
def kset (xs : List KV) : Nat → KV → (List KV → R) → R :=
  List.rec (motive := fun _ => Nat → KV → (List KV → R) → R) (fun _ _ _ => none) (fun x xs ih off v k => kvc x
    (fun n l => bif Nat.blt off n then (match v with | .byte b => forR (pset l off b) fun l => k (.sbs n l :: xs) | _ => none) else ih (Nat.sub off n) v fun r => k (.sbs n l :: r))
    (fun kd n l => bif Nat.blt off n then (match v with | .int kd' b => gd (eqIK kd kd') (ksetI l off b fun l => k (.sis kd n l :: xs)) | _ => none) else ih (Nat.sub off n) v fun r => k (.sis kd n l :: r))
    (Nat.casesOn off (k (v :: xs)) fun off => ih off v fun r => k (x :: r))) xs
def kapp {α : Type} (xs : List α) : List α → (List α → R) → R :=
  List.rec (motive := fun _ => List α → (List α → R) → R) (fun ys k => k ys) (fun x _ ih ys k => ih ys fun r => k (x :: r)) xs
def kput (cs : List KV) (off : Nat) (new : List KV) (k : List KV → R) : R :=
  ktake cs off fun a => kdrop cs (Nat.add off (kncells new)) fun b => kapp new b fun r => kapp a r k
def kpieces (G : KG) (fr : KT) (ps : List Piece) : (List KV → R) → R :=
  List.rec (motive := fun _ => (List KV → R) → R) (fun K => K []) (fun p _ ih K => match p with
    | .op n x => kev G fr x fun v => kcells v fun cs => gd (Nat.beq (kncells cs) n) (ih fun r => kapp cs r K)
    | .z cs => kcsts cs fun cs => ih fun r => kapp cs r K) ps
def kbytes (G : KG) (fr : KT) (xs : List Opd) : (Nat → R) → R :=
  List.rec (motive := fun _ => (Nat → R) → R) (fun K => K 0) (fun x _ ih K => kev G fr x fun v => match v with
    | .byte b => ih fun r => forR (Nat.add b (Nat.mul 256 r)) K
    | _ => none) xs
def kelems (G : KG) (fr : KT) (sz : Nat) (xs : List Opd) : (List (List KV) → R) → R :=
  List.rec (motive := fun _ => (List (List KV) → R) → R) (fun K => K []) (fun x _ ih K => kev G fr x fun v => kcells v fun cs => gd (Nat.beq (kncells cs) sz) (ih fun r => K (cs :: r))) xs
def knth (l : List (List KV)) : Nat → (List KV → R) → R :=
  List.rec (motive := fun _ => Nat → (List KV → R) → R) (fun _ _ => none) (fun x _ ih n K => Nat.casesOn n (K x) fun n => ih n K) l
def ksetN (l : List (List KV)) : Nat → List KV → (List (List KV) → R) → R :=
  List.rec (motive := fun _ => Nat → List KV → (List (List KV) → R) → R) (fun _ _ _ => none) (fun x l ih n v K => Nat.casesOn n (K (v :: l)) fun n => ih n v fun r => K (x :: r)) l
def bitsN (k : IntKind) : Nat := match k with | .i8 | .u8 => 8 | .i16 | .u16 => 16 | .i32 | .u32 => 32 | .i64 | .u64 => 64
def modN (k : IntKind) : Nat := match k with | .i8 | .u8 => 256 | .i16 | .u16 => 65536 | .i32 | .u32 => 4294967296 | .i64 | .u64 => 18446744073709551616
def halfN (k : IntKind) : Nat := match k with | .i8 | .u8 => 128 | .i16 | .u16 => 32768 | .i32 | .u32 => 2147483648 | .i64 | .u64 => 9223372036854775808
def limN (k : IntKind) : Nat := match k with | .i8 => 128 | .u8 => 256 | .i16 => 32768 | .u16 => 65536 | .i32 => 2147483648 | .u32 => 4294967296 | .i64 => 9223372036854775808 | .u64 => 18446744073709551616
def kint (k : IntKind) (n : Int) (K : KV → R) : R := match sgn k with
  | true => (match n with
    | .ofNat m => forR m fun m => gd (Nat.blt m (halfN k)) (K (.int k (.ofNat m)))
    | .negSucc m => forR m fun m => gd (Nat.blt m (halfN k)) (K (.int k (.negSucc m))))
  | false => (match n with
    | .ofNat m => forR (Nat.mod m (modN k)) fun m => K (.int k (.ofNat m))
    | .negSucc m => forR (Nat.sub (Nat.sub (modN k) 1) (Nat.mod m (modN k))) fun m => K (.int k (.ofNat m)))
def eqZ : Int → Int → Bool
  | .ofNat a, .ofNat b => Nat.beq a b
  | .negSucc a, .negSucc b => Nat.beq a b
  | _, _ => false
def ltZ : Int → Int → Bool
  | .ofNat a, .ofNat b => Nat.blt a b
  | .negSucc a, .negSucc b => Nat.blt b a
  | .negSucc _, .ofNat _ => true
  | .ofNat _, .negSucc _ => false
def kb_add (k k' : IntKind) (a b : Int) (K : KV → R) : R := gd (eqIK k k') (kint k (Int.add a b) K)
def kb_sub (k k' : IntKind) (a b : Int) (K : KV → R) : R := gd (eqIK k k') (kint k (Int.sub a b) K)
def kb_mul (k k' : IntKind) (a b : Int) (K : KV → R) : R := gd (eqIK k k') (kint k (Int.mul a b) K)
def kb_eql (k k' : IntKind) (a b : Int) (K : KV → R) : R := gd (eqIK k k') (K (.bool (eqZ a b)))
def kb_neq (k k' : IntKind) (a b : Int) (K : KV → R) : R := gd (eqIK k k') (K (.bool (!eqZ a b)))
def kb_lss (k k' : IntKind) (a b : Int) (K : KV → R) : R := gd (eqIK k k') (K (.bool (ltZ a b)))
def kb_leq (k k' : IntKind) (a b : Int) (K : KV → R) : R := gd (eqIK k k') (K (.bool (!ltZ b a)))
def kb_gtr (k k' : IntKind) (a b : Int) (K : KV → R) : R := gd (eqIK k k') (K (.bool (ltZ b a)))
def kb_geq (k k' : IntKind) (a b : Int) (K : KV → R) : R := gd (eqIK k k') (K (.bool (!ltZ a b)))
def natZ (a b : Int) (f : Nat → Nat → R) : R := @Int.casesOn (fun _ => R) a (fun a => @Int.casesOn (fun _ => R) b (fun b => f a b) (fun _ => none)) (fun _ => none)
def kb_quo (k k' : IntKind) (a b : Int) (K : KV → R) : R := natZ a b fun a b => gd (eqIK k k' && Nat.blt 0 b && Nat.blt a (limN k)) (forR (Nat.div a b) fun m => K (.int k (.ofNat m)))
def kb_rem (k k' : IntKind) (a b : Int) (K : KV → R) : R := natZ a b fun a b => gd (eqIK k k' && Nat.blt 0 b) (forR (Nat.mod a b) fun m => K (.int k (.ofNat m)))
def kb_and (k k' : IntKind) (a b : Int) (K : KV → R) : R := natZ a b fun a b => gd (eqIK k k' && Nat.blt a (limN k) && Nat.blt b (limN k)) (forR (Nat.land a b) fun m => K (.int k (.ofNat m)))
def kb_or (k k' : IntKind) (a b : Int) (K : KV → R) : R := natZ a b fun a b => gd (eqIK k k' && Nat.blt a (limN k) && Nat.blt b (limN k)) (forR (Nat.lor a b) fun m => K (.int k (.ofNat m)))
def kb_xor (k k' : IntKind) (a b : Int) (K : KV → R) : R := natZ a b fun a b => gd (eqIK k k' && Nat.blt a (limN k) && Nat.blt b (limN k)) (forR (Nat.xor a b) fun m => K (.int k (.ofNat m)))
def kb_shl (k k' : IntKind) (a b : Int) (K : KV → R) : R := natZ a b fun a b => gd (Nat.ble b (bitsN k)) (kint k (.ofNat (Nat.shiftLeft a b)) K)
def kb_shr (k k' : IntKind) (a b : Int) (K : KV → R) : R := natZ a b fun a b => gd (Nat.ble b (bitsN k)) (forR (Nat.shiftRight a b) fun m => K (.int k (.ofNat m)))
def kbinI (op : BinOp) (k k' : IntKind) (a b : Int) (K : KV → R) : R :=
  @BinOp.rec (fun _ => IntKind → IntKind → Int → Int → (KV → R) → R) kb_add kb_sub kb_mul kb_quo kb_rem kb_and kb_or kb_xor kb_shl kb_shr (fun _ _ _ _ _ => none) kb_eql kb_neq kb_lss kb_leq kb_gtr kb_geq op k k' a b K
def kbinB (op : BinOp) (a b : Nat) (K : KV → R) : R := match op with
  | .add => forR (Nat.mod (Nat.add a b) 256) fun m => K (.byte m)
  | .sub => forR (Nat.mod (Nat.add (Nat.sub 256 b) a) 256) fun m => K (.byte m)
  | .and => forR (Nat.land a b) fun m => K (.byte m)
  | .or => forR (Nat.lor a b) fun m => K (.byte m)
  | .xor => forR (Nat.xor a b) fun m => K (.byte m)
  | .eql => K (.bool (Nat.beq a b))
  | .neq => K (.bool (!Nat.beq a b))
  | .lss => K (.bool (Nat.blt a b))
  | .leq => K (.bool (Nat.ble a b))
  | .gtr => K (.bool (Nat.blt b a))
  | .geq => K (.bool (Nat.ble b a))
  | _ => none
def kv4 {α : Type} (v : KV) (i : IntKind → Int → α) (b : Nat → α) (t : Bool → α) (s : Nat → Nat → α) (e : α) : α :=
  KV.casesOn (motive_1 := fun _ => α) v i b t s e e e e e (fun _ _ => e) (fun _ _ _ _ => e) (fun _ _ _ _ => e) (fun _ _ _ _ _ => e) (fun _ => e) (fun _ => e) (fun _ => e) (fun _ => e) (fun _ _ => e) (fun _ _ _ => e) (fun _ => e)
def kbinSh (op : BinOp) (a : Nat) (b : Int) (K : KV → R) : R := match op, b with
  | .shl, .ofNat b => gd (Nat.ble b 8) (forR (Nat.mod (Nat.shiftLeft a b) 256) fun m => K (.byte m))
  | .shr, .ofNat b => gd (Nat.ble b 8) (forR (Nat.shiftRight a b) fun m => K (.byte m))
  | _, _ => none
def kbinS (op : BinOp) (n a m b : Nat) (K : KV → R) : R := match op with
  | .add => forR (Nat.add n m) fun l => gd (Nat.ble l 9223372036854775807) (forR (papp n a b) fun c => K (.str l c))
  | .eql => K (.bool (Nat.beq n m && Nat.beq a b))
  | .neq => K (.bool (!(Nat.beq n m && Nat.beq a b)))
  | _ => none
def kbin_i (op : BinOp) (k : IntKind) (a : Int) (y : KV) (K : KV → R) : R := kv4 y (fun k' b => kbinI op k k' a b K) (fun _ => none) (fun _ => none) (fun _ _ => none) none
def kbin_b (op : BinOp) (a : Nat) (y : KV) (K : KV → R) : R := kv4 y (fun _ b => kbinSh op a b K) (fun b => kbinB op a b K) (fun _ => none) (fun _ _ => none) none
def kbin_s (op : BinOp) (n a : Nat) (y : KV) (K : KV → R) : R := kv4 y (fun _ _ => none) (fun _ => none) (fun _ => none) (fun m b => kbinS op n a m b K) none
def kbin (op : BinOp) (x y : KV) (K : KV → R) : R := kv4 x (fun k a => kbin_i op k a y K) (fun a => kbin_b op a y K) (fun _ => none) (fun n a => kbin_s op n a y K) none
def kvp {α : Type} (v : KV) (p : Pos → Nat → α) (i : Pos → Nat → Nat → Nat → α) (c : List KV → α) (e : α) : α :=
  KV.casesOn (motive_1 := fun _ => α) v (fun _ _ => e) (fun _ => e) (fun _ => e) (fun _ _ => e) e e e e e p i (fun _ _ _ _ => e) (fun _ _ _ _ _ => e) (fun _ => e) c (fun _ => e) (fun _ => e) (fun _ _ => e) (fun _ _ _ => e) (fun _ => e)
def koc (o : KObj) (c : List KV → R) : R := KObj.casesOn (motive := fun _ => R) o c (fun _ _ => none) (fun _ _ _ => none) (fun _ => none)
def kload1i (S : KH) (n : Pos) (off sz i : Nat) (K : KV → R) : R := KH.getR S n fun o => match o with
    | .arr sz' len l => gd (Nat.beq sz sz' && Nat.blt i len && Nat.blt off sz) (knth l i fun cs => kcell cs off K)
    | .bytes len l => gd (Nat.beq sz 1 && Nat.beq off 0 && Nat.blt i len) (forR (pget l i) fun b => K (.byte b))
    | .cells cs => gd (Nat.beq sz 1) (kdrop cs off fun r => match r with
      | .sbs n l :: _ => gd (Nat.blt i n) (forR (pget l i) fun b => K (.byte b))
      | .sis kd n l :: _ => gd (Nat.blt i n) (kgetI l i fun x => K (.int kd x))
      | _ => none)
    | _ => none
def kload1 (S : KH) (v : KV) (K : KV → R) : R := kvp v (fun n off => KH.getR S n fun o => koc o fun cs => kcell cs off K) (fun n off sz i => kload1i S n off sz i K) (fun cs => kcell cs 0 K) none
def kloadN (S : KH) (n : Nat) (v : KV) (K : KV → R) : R := match v with
  | .ip cs => ktake cs n fun r => K (.agg r)
  | .ptr m off => KH.getR S m fun o => match o with
    | .cells cs => kdrop cs off fun cs => ktake cs n fun r => K (.agg r)
    | _ => none
  | .ixp m off sz i => KH.getR S m fun o => match o with
    | .arr sz' len l => gd (Nat.beq sz sz' && Nat.blt i len && Nat.ble (Nat.add off n) sz) (knth l i fun cs => kdrop cs off fun cs => ktake cs n fun r => K (.agg r))
    | .bytes len l => gd (Nat.beq sz 1 && Nat.beq off 0 && Nat.ble (Nat.add i n) len) (forR (psub l i n) fun b => K (.agg [.sbs n b]))
    | _ => none
  | _ => none
def kslsl (sz : Nat) (v : KV) (lo : Nat) (hi : Option Nat) (K : KV → R) : R := match v with
  | .nilsl => gd (Nat.beq lo 0 && Nat.beq (hi.getD 0) 0) (K .nilsl)
  | .sl sz' n off len => let h := hi.getD len; gd (Nat.beq sz sz' && Nat.ble lo h && Nat.ble h len) (forR (Nat.add off lo) fun off => forR (Nat.sub h lo) fun len => K (.sl sz n off len))
  | .slx sz' n off len cap => let h := hi.getD len; gd (Nat.beq sz sz' && Nat.ble lo h && Nat.ble h len && Nat.blt lo cap) (forR (Nat.add off (Nat.mul lo sz)) fun off => forR (Nat.sub h lo) fun len => forR (Nat.sub cap lo) fun cap => K (.slx sz n off len cap))
  | _ => none
def kcont (S : KH) (v : KV) (K : Nat → Nat → R) : R := match v with
  | .nilsl => K 0 0
  | .str n l => K n l
  | .sl sz n off len => KH.getR S n fun o => match o with
    | .bytes m l => gd (Nat.beq sz 1 && Nat.ble (Nat.add off len) m) (forR (psub l off len) fun l => K len l)
    | _ => none
  | .slx sz n off len _ => KH.getR S n fun o => match o with
    | .cells cs => kdrop cs off fun r => match r with
      | .sbs m l :: _ => gd (Nat.beq sz 1 && Nat.ble len m) (forR (psub l 0 len) fun l => K len l)
      | _ => none
    | _ => none
  | _ => none
def kcmp : Nat → Nat → Nat → Nat → Int
  | 0, 0, _, _ => .ofNat 0
  | 0, _ + 1, _, _ => .negSucc 0
  | _ + 1, 0, _, _ => .ofNat 1
  | n + 1, m + 1, a, b => bif Nat.beq (Nat.mod a 256) (Nat.mod b 256) then kcmp n m (Nat.div a 256) (Nat.div b 256) else bif Nat.blt (Nat.mod a 256) (Nat.mod b 256) then .negSucc 0 else .ofNat 1
def allLK (k : IntKind) : Nat → List LK → (List LK → R) → R
  | 0, ls, K => K ls
  | n + 1, .i k' :: ls, K => gd (eqIK k k') (allLK k n ls K)
  | _ + 1, _, _ => none
def eqIs : List Int → List Int → Bool
  | [], [] => true
  | x :: xs, y :: ys => eqZ x y && eqIs xs ys
  | _, _ => false
def keqa : List LK → List KV → List KV → (Bool → R) → R
  | ls, .sbs n l :: xs, .sbs m l' :: ys, K => gd (Nat.beq n m) (allLK .u8 n ls fun ls => keqa ls xs ys fun b => K (Nat.beq l l' && b))
  | ls, .sis k n l :: xs, .sis k' m l' :: ys, K => gd (Nat.beq n m && eqIK k k') (allLK k n ls fun ls => keqa ls xs ys fun b => K (eqIs l l' && b))
  | .i k :: ls, .int k1 a :: xs, .int k2 b :: ys, K => gd (eqIK k k1 && eqIK k k2) (keqa ls xs ys fun r => K (eqZ a b && r))
  | .i k :: ls, .byte a :: xs, .byte b :: ys, K => gd (eqIK k .u8) (keqa ls xs ys fun r => K (Nat.beq a b && r))
  | .b :: ls, .bool a :: xs, .bool b :: ys, K => keqa ls xs ys fun r => K (!xor a b && r)
  | .s :: ls, .str n a :: xs, .str m b :: ys, K => keqa ls xs ys fun r => K ((Nat.beq n m && Nat.beq a b) && r)
  | [], [], [], K => K true
  | _, _, _, _ => none
def kisKey (s : Bool) (x k : KV) : Bool := match x, k with
  | .int k _, .int k' _ => !s && eqIK k k'
  | .str _ _, .str _ _ => s
  | _, _ => false
def keqKey (x k : KV) : Bool := match x, k with
  | .int _ x, .int _ y => eqZ x y
  | .str n x, .str m y => Nat.beq n m && Nat.beq x y
  | _, _ => false
def kallKeys (s : Bool) (x : KV) : List (KV × KV) → Bool
  | [] => true
  | (k, _) :: es => kisKey s x k && kallKeys s x es
def kfind : List (KV × KV) → KV → (Option KV → R) → R
  | [], _, K => K none
  | (k, v) :: es, x, K => bif keqKey x k then K (some v) else kfind es x K
def kmput : List (KV × KV) → KV → KV → (List (KV × KV) → R) → R
  | [], x, v, K => K [(x, v)]
  | (k, w) :: es, x, v, K => bif keqKey x k then K ((k, v) :: es) else kmput es x v fun r => K ((k, w) :: r)
def kmdel : List (KV × KV) → KV → (List (KV × KV) → R) → R
  | [], _, K => K []
  | (k, w) :: es, x, K => bif keqKey x k then K es else kmdel es x fun r => K ((k, w) :: r)
def kq_mov (x : Opd) (G : KG) (S : KH) (fr : KT) (K : KV → R) : R := kev G fr x K
def kq_pick (c : Opd) (a : Opd) (b : Opd) (G : KG) (S : KH) (fr : KT) (K : KV → R) : R := kev G fr c fun v => match v with
  | .bool t => bif t then kev G fr a K else kev G fr b K
  | _ => none
def kq_build (ps : List Piece) (G : KG) (S : KH) (fr : KT) (K : KV → R) : R := kpieces G fr ps fun cs => K (.agg cs)
def kq_load1 (a : Opd) (G : KG) (S : KH) (fr : KT) (K : KV → R) : R := kev G fr a fun v => kload1 S v K
def kq_loadN (n : Nat) (a : Opd) (G : KG) (S : KH) (fr : KT) (K : KV → R) : R := kev G fr a fun v => kloadN S n v K
def kq_nilck (x : Opd) (G : KG) (S : KH) (fr : KT) (K : KV → R) : R := kev G fr x fun v => match v with
  | .ip cs => K (.ip cs)
  | .ptr n off => K (.ptr n off)
  | .ixp n off sz i => K (.ixp n off sz i)
  | _ => none
def kq_bin (op : BinOp) (x : Opd) (y : Opd) (G : KG) (S : KH) (fr : KT) (K : KV → R) : R := kev G fr x fun a => kev G fr y fun b => kbin op a b K
def kq_eqb (neg : Bool) (x : Opd) (y : Opd) (G : KG) (S : KH) (fr : KT) (K : KV → R) : R := kev G fr x fun a => kev G fr y fun b => match a, b with
  | .bool a, .bool b => K (.bool (bif neg then xor a b else !xor a b))
  | _, _ => none
def kq_eqp (neg : Bool) (x : Opd) (y : Opd) (G : KG) (S : KH) (fr : KT) (K : KV → R) : R := kev G fr x fun a => kev G fr y fun b => match a, b with
  | .nilptr, .nilptr => K (.bool (!neg))
  | .ptr _ _, .nilptr => K (.bool neg)
  | .nilptr, .ptr _ _ => K (.bool neg)
  | .ip _, .nilptr => K (.bool neg)
  | .ptr n o, .ptr m p => gd (Pos.eqb n m && Nat.beq o p) (K (.bool (!neg)))
  | _, _ => none
def kq_un (op : UnOp) (x : Opd) (G : KG) (S : KH) (fr : KT) (K : KV → R) : R := kev G fr x fun a => match op, a with
  | .not, .bool b => K (.bool (!b))
  | .xor, .int k (.ofNat n) => gd (!sgn k && Nat.blt n (modN k)) (forR (Nat.xor (Nat.sub (modN k) 1) n) fun m => K (.int k (.ofNat m)))
  | .neg, .int k n => kint k (Int.neg n) K
  | _, _ => none
def kq_cint (k : IntKind) (x : Opd) (G : KG) (S : KH) (fr : KT) (K : KV → R) : R := kev G fr x fun a => match a with
  | .byte b => (match k with | .u8 => K (.byte b) | .i8 => none | k => K (.int k (.ofNat b)))
  | .int _ n => (match k with
    | .u8 => (match n with | .ofNat m => forR (Nat.mod m 256) fun m => K (.byte m) | _ => none)
    | k => kint k n K)
  | _ => none
def kq_b2s (x : Opd) (G : KG) (S : KH) (fr : KT) (K : KV → R) : R := kev G fr x fun a => match a with
  | .nilsl => K (.str 0 0)
  | .sl sz n off len => KH.getR S n fun o => match o with
    | .bytes m l => gd (Nat.beq sz 1 && Nat.ble (Nat.add off len) m) (forR (psub l off len) fun l => K (.str len l))
    | _ => none
  | .slx sz n off len _ => KH.getR S n fun o => match o with
    | .cells cs => kdrop cs off fun r => match r with
      | .sbs m l :: _ => gd (Nat.beq sz 1 && Nat.ble len m) (forR (psub l 0 len) fun l => K (.str len l))
      | _ => none
    | _ => none
  | _ => none
def kq_s2ap (n : Nat) (x : Opd) (G : KG) (S : KH) (fr : KT) (K : KV → R) : R := kev G fr x fun a => match a with
  | .sl sz m off len => gd (Nat.beq sz 1 && Nat.ble n len && Nat.blt 0 n) (K (.ixp m 0 1 off))
  | .slx sz m off len _ => gd (Nat.beq sz 1 && Nat.ble n len && Nat.blt 0 n) (K (.ptr m off))
  | _ => none
def kq_faddr (off : Nat) (a : Opd) (G : KG) (S : KH) (fr : KT) (K : KV → R) : R := kev G fr a fun v => match v with
  | .ip cs => kdrop cs off fun r => K (.ip r)
  | .ptr n o => forR (Nat.add o off) fun o => K (.ptr n o)
  | .ixp n o sz i => forR (Nat.add o off) fun o => K (.ixp n o sz i)
  | _ => none
def kq_field (z0 : Nat) (z1 : Option Nat) (z2 : Opd) (G : KG) (S : KH) (fr : KT) (K : KV → R) : R := match z0, z1, z2 with
  | off, none, x => kev G fr x fun v => match v with
      | .agg cs => kcell cs off K
      | _ => none
  | off, (some n), x => kev G fr x fun v => match v with
      | .agg cs => kdrop cs off fun cs => ktake cs n fun r => K (.agg r)
      | _ => none
def kq_ixarr (sz : Nat) (n : Nat) (x : Opd) (i : Opd) (G : KG) (S : KH) (fr : KT) (K : KV → R) : R := kev G fr x fun v => kev G fr i fun i => knat i fun i => gd (Nat.blt i n) (match v with
  | .ptr m off => K (.ixp m off sz i)
  | .ip [.sbs m l] => gd (Nat.beq sz 1 && Nat.ble n m) (forR (pget l i) fun b => K (.ip [.byte b]))
  | .ip [.sis kd m l] => gd (Nat.beq sz 1 && Nat.ble n m) (kgetI l i fun x => K (.ip [.int kd x]))
  | _ => none)
def kq_ixsl (sz : Nat) (x : Opd) (i : Opd) (G : KG) (S : KH) (fr : KT) (K : KV → R) : R := kev G fr x fun v => kev G fr i fun i => knat i fun i => match v with
  | .sl sz' n off len => gd (Nat.beq sz sz' && Nat.blt i len) (forR (Nat.add off i) fun i => K (.ixp n 0 sz i))
  | .slx sz' n off len _ => gd (Nat.beq sz sz' && Nat.blt i len) (K (.ixp n off sz i))
  | _ => none
def kq_idxstr (x : Opd) (i : Opd) (G : KG) (S : KH) (fr : KT) (K : KV → R) : R := kev G fr x fun v => kev G fr i fun i => knat i fun i => match v with
  | .str len l => gd (Nat.blt i len) (forR (pget l i) fun b => K (.byte b))
  | _ => none
def kq_idxagg (n : Nat) (x : Opd) (i : Opd) (G : KG) (S : KH) (fr : KT) (K : KV → R) : R := kev G fr x fun v => kev G fr i fun i => knat i fun i => gd (Nat.blt i n) (match v with
  | .agg [.sbs m l] => gd (Nat.beq n m) (forR (pget l i) fun b => K (.byte b))
  | .agg [.sis kd m l] => gd (Nat.beq n m) (kgetI l i fun x => K (.int kd x))
  | _ => none)
def kq_slarr (sz : Nat) (n : Nat) (x : Opd) (lo : Option Opd) (hi : Option Opd) (G : KG) (S : KH) (fr : KT) (K : KV → R) : R := kev G fr x fun v => koNat G fr lo 0 fun l => koNat G fr hi n fun h => match v with
  | .ptr m off => gd (Nat.ble l h && Nat.ble h n && Nat.blt l n) (forR (Nat.add off (Nat.mul l sz)) fun off => forR (Nat.sub h l) fun len => forR (Nat.sub n l) fun cap => K (.slx sz m off len cap))
  | _ => none
def kq_slsl (sz : Nat) (x : Opd) (lo : Option Opd) (hi : Option Opd) (G : KG) (S : KH) (fr : KT) (K : KV → R) : R := kev G fr x fun v => koNat G fr lo 0 fun l => match hi with
  | none => kslsl sz v l none K
  | some h => kev G fr h fun h => knat h fun h => kslsl sz v l (some h) K
def kq_slstr (x : Opd) (lo : Option Opd) (hi : Option Opd) (G : KG) (S : KH) (fr : KT) (K : KV → R) : R := kev G fr x fun v => match v with
  | .str len s => koNat G fr lo 0 fun l => koNat G fr hi len fun h => gd (Nat.ble l h && Nat.ble h len) (forR (Nat.sub h l) fun len => forR (psub s l len) fun s => K (.str len s))
  | _ => none
def kq_ext (x : Opd) (i : Nat) (G : KG) (S : KH) (fr : KT) (K : KV → R) : R := kev G fr x fun v => match v with
  | .tup vs => (match vs[i]? with | some v => K v | none => none)
  | _ => none
def kq_len (z0 : Bool) (z1 : Opd) (G : KG) (S : KH) (fr : KT) (K : KV → R) : R := match z0, z1 with
  | true, x => kev G fr x fun v => match v with
      | .str n _ => K (.int .i64 (.ofNat n))
      | _ => none
  | false, x => kev G fr x fun v => match v with
      | .nilsl => K (.int .i64 (.ofNat 0))
      | .sl _ _ _ n => K (.int .i64 (.ofNat n))
      | .slx _ _ _ n _ => K (.int .i64 (.ofNat n))
      | _ => none
def kq_mm (mx : Bool) (x : Opd) (y : Opd) (G : KG) (S : KH) (fr : KT) (K : KV → R) : R := kev G fr x fun a => kev G fr y fun b => match a, b with
  | .int k a, .int k' b => gd (eqIK k k') (K (.int k (bif ltZ a b then (bif mx then b else a) else (bif mx then a else b))))
  | _, _ => none
def kq_eqa (neg : Bool) (ls : List LK) (x : Opd) (y : Opd) (G : KG) (S : KH) (fr : KT) (K : KV → R) : R := kev G fr x fun a => kev G fr y fun b => match a, b with
  | .agg xs, .agg ys => keqa ls xs ys fun r => K (.bool (bif neg then !r else r))
  | _, _ => none
def kq_eqn (neg : Bool) (x : Opd) (G : KG) (S : KH) (fr : KT) (K : KV → R) : R := kev G fr x fun a => match a with
  | .nilsl => K (.bool (!neg))
  | .sl _ _ _ len => gd (Nat.blt 0 len) (K (.bool neg))
  | .slx _ _ _ _ _ => K (.bool neg)
  | _ => none
def kq_mget (s : Bool) (ok : Bool) (z : SV) (x : Opd) (i : Opd) (G : KG) (S : KH) (fr : KT) (K : KV → R) : R := kev G fr x fun m => kev G fr i fun k => match m with
  | .map n => KH.getR S n fun o => match o with
    | .mp es => gd (kisKey s k k && kallKeys s k es) (kfind es k fun r => match r with
      | some v => K (bif ok then .tup [v, .bool true] else v)
      | none => kz z fun z => K (bif ok then .tup [z, .bool false] else z))
    | _ => none
  | _ => none
def kq_mlen (x : Opd) (G : KG) (S : KH) (fr : KT) (K : KV → R) : R := kev G fr x fun m => match m with
  | .nilmap => K (.int .i64 (.ofNat 0))
  | .map n => KH.getR S n fun o => match o with
    | .mp es => forR es.length fun n => K (.int .i64 (.ofNat n))
    | _ => none
  | _ => none
def kq_cmpb (_u0 : Nat) (x : Opd) (y : Opd) (G : KG) (S : KH) (fr : KT) (K : KV → R) : R := kev G fr x fun a => kev G fr y fun b => kcont S a fun n l => kcont S b fun m l' => K (.int .i64 (kcmp n m l l'))
def kq (G : KG) (S : KH) (fr : KT) (c : COp) (K : KV → R) : R :=
  @COp.rec (fun _ => KG → KH → KT → (KV → R) → R) kq_mov kq_pick kq_build kq_load1 kq_loadN kq_nilck kq_bin kq_eqb kq_eqp kq_un kq_cint kq_b2s kq_s2ap kq_faddr kq_field kq_ixarr kq_ixsl kq_idxstr kq_idxagg kq_slarr kq_slsl kq_slstr kq_ext kq_len kq_mm kq_eqa kq_eqn kq_mget kq_mlen kq_cmpb (fun _ _ _ _ => none) (fun _ _ _ _ => none) (fun _ _ _ _ _ => none) (fun _ _ _ _ _ => none) (fun _ _ _ _ _ _ _ => none) (fun _ _ _ _ _ => none) (fun _ _ _ _ _ => none) (fun _ _ _ _ _ _ _ _ => none) (fun _ _ _ _ _ => none) (fun _ _ _ _ _ => none) (fun _ _ _ _ _ _ => none) (fun _ _ _ _ _ _ _ => none) (fun _ _ _ _ _ _ => none) (fun _ _ _ _ _ _ => none) (fun _ _ _ _ _ _ _ _ => none) (fun _ _ _ _ _ _ _ _ => none) (fun _ _ _ _ _ _ _ => none) (fun _ _ _ _ _ => none) (fun _ _ _ _ _ _ => none) (fun _ _ _ _ _ _ => none) (fun _ _ _ _ _ _ => none) c G S fr K
def ktakeN : List (List KV) → Nat → (List (List KV) → R) → R
  | _, 0, K => K []
  | [], _ + 1, _ => none
  | x :: l, n + 1, K => ktakeN l n fun r => K (x :: r)
def kcontE (S : KH) (sz : Nat) (v : KV) (K : Nat → List (List KV) → R) : R := match v with
  | .nilsl => K 0 []
  | .sl sz' n off len => KH.getR S n fun o => match o with
    | .arr sz2 m l => gd (Nat.beq sz sz' && Nat.beq sz sz2 && Nat.ble (Nat.add off len) m) (ktakeN (l.drop off) len fun r => K len r)
    | _ => none
  | _ => none
def kstore1i (S : KH) (nx : Pos) (n : Pos) (off sz i : Nat) (v : KV) (K : KV → KH → Pos → R) : R := KH.getR S n fun o => match o with
    | .arr s len l => gd (Nat.beq sz s && Nat.blt i len && Nat.blt off sz) (knth l i fun cs => kset cs off v fun cs => ksetN l i cs fun l => KH.setR n S (.arr s len l) fun S => K (.tup []) S nx)
    | .bytes len l => (match v with
      | .byte b => gd (Nat.beq sz 1 && Nat.beq off 0 && Nat.blt i len) (forR (pset l i b) fun l => KH.setR n S (.bytes len l) fun S => K (.tup []) S nx)
      | _ => none)
    | .cells cs => gd (Nat.beq sz 1) (ktake cs off fun pre => kdrop cs off fun r => match r with
      | .sbs m l :: tl => (match v with
        | .byte b => gd (Nat.blt i m) (forR (pset l i b) fun l => kapp pre (.sbs m l :: tl) fun cs => KH.setR n S (.cells cs) fun S => K (.tup []) S nx)
        | _ => none)
      | .sis kd m l :: tl => (match v with
        | .int kd' b => gd (eqIK kd kd' && Nat.blt i m) (ksetI l i b fun l => kapp pre (.sis kd m l :: tl) fun cs => KH.setR n S (.cells cs) fun S => K (.tup []) S nx)
        | _ => none)
      | _ => none)
    | _ => none
def kstore1 (S : KH) (nx : Pos) (a v : KV) (K : KV → KH → Pos → R) : R := kvp a (fun n off => KH.getR S n fun o => koc o fun cs => kset cs off v fun cs => KH.setR n S (.cells cs) fun S => K (.tup []) S nx) (fun n off sz i => kstore1i S nx n off sz i v K) (fun _ => none) none
def kstoreN (S : KH) (nx : Pos) (n : Nat) (a v : KV) (K : KV → KH → Pos → R) : R := match v with
  | .agg new => gd (Nat.beq (kncells new) n) (match a with
    | .ptr m off => KH.getR S m fun o => match o with
      | .cells cs => kput cs off new fun cs => KH.setR m S (.cells cs) fun S => K (.tup []) S nx
      | _ => none
    | .ixp m off sz i => KH.getR S m fun o => match o with
      | .arr s len l => gd (Nat.beq sz s && Nat.blt i len && Nat.ble (Nat.add off n) sz) (knth l i fun cs => kput cs off new fun cs => ksetN l i cs fun l => KH.setR m S (.arr s len l) fun S => K (.tup []) S nx)
      | _ => none
    | _ => none)
  | _ => none
def kappb (S : KH) (nx : Pos) (x : KV) (m M : Nat) (K : KV → KH → Pos → R) : R := match x with
  | .nilsl => gd (Nat.ble m 140737488355328) (KH.newR S nx (.bytes m M) fun S nx' => K (.sl 1 nx 0 m) S nx')
  | .sl sz n off len => KH.getR S n fun o => match o with
    | .bytes l L => gd (Nat.beq sz 1 && Nat.beq off 0 && Nat.beq len l && Nat.ble (Nat.add len m) 140737488355328) (forR (Nat.add len m) fun k => forR (papp l L M) fun N => KH.delR n S fun S => KH.newR S nx (.bytes k N) fun S nx' => K (.sl 1 nx 0 k) S nx')
    | _ => none
  | .slx sz n off len cap => KH.getR S n fun o => match o with
    | .cells cs => kdrop cs off fun r => match r with
      | .sbs k l :: _ => gd (Nat.beq sz 1 && Nat.ble len k && Nat.beq len cap && Nat.blt 0 m && Nat.ble (Nat.add len m) 140737488355328) (forR (Nat.add len m) fun k => forR (papp len (psub l 0 len) M) fun N => KH.newR S nx (.bytes k N) fun S nx' => K (.sl 1 nx 0 k) S nx')
      | _ => none
    | _ => none
  | _ => none
def kappE (S : KH) (nx : Pos) (sz bytes : Nat) (x : KV) (m : Nat) (F : List (List KV)) (K : KV → KH → Pos → R) : R := match x with
  | .nilsl => gd (Nat.ble (Nat.mul bytes m) 140737488355328) (KH.newR S nx (.arr sz m F) fun S nx' => K (.sl sz nx 0 m) S nx')
  | .sl sz' n off len => KH.getR S n fun o => match o with
    | .arr sz2 l E => gd (Nat.beq sz sz' && Nat.beq sz sz2 && Nat.beq off 0 && Nat.beq len l && Nat.ble (Nat.mul bytes (Nat.add len m)) 140737488355328) (forR (Nat.add len m) fun k => kapp E F fun E => KH.delR n S fun S => KH.newR S nx (.arr sz k E) fun S nx' => K (.sl sz nx 0 k) S nx')
    | _ => none
  | _ => none
def ksrc (S : KH) (v : KV) (K : Nat → Nat → R) : R := match v with
  | .str _ _ => none
  | v => kcont S v K
def kcontI (S : KH) (v : KV) (K : IntKind → List Int → R) : R := match v with
  | .slx sz n off len _ => KH.getR S n fun o => match o with
    | .cells cs => kdrop cs off fun r => match r with
      | .sis kd m l :: _ => gd (Nat.beq sz 1 && Nat.ble len m) (K kd (l.take len))
      | _ => none
    | _ => none
  | _ => none
def pput (N off n M : Nat) : Nat := Nat.add (Nat.mod N (Nat.pow 2 (Nat.mul 8 off))) (Nat.shiftLeft (Nat.add (Nat.mod M (Nat.pow 2 (Nat.mul 8 n))) (Nat.shiftLeft (Nat.shiftRight N (Nat.mul 8 (Nat.add off n))) (Nat.mul 8 n))) (Nat.mul 8 off))
def minN (a b : Nat) : Nat := bif Nat.ble a b then a else b
def kapps : List Int → List Int → List Int
  | [], ys => ys
  | x :: xs, ys => x :: kapps xs ys
def kspB : List KV → Nat → Nat → Nat → (List KV → R) → R
  | [], _, _, _, _ => none
  | .sbs n l :: xs, off, k, M, K => bif Nat.blt off n then gd (Nat.ble (Nat.add off k) n) (forR (pput l off k M) fun l => K (.sbs n l :: xs)) else kspB xs (Nat.sub off n) k M fun r => K (.sbs n l :: r)
  | .sis kd n l :: xs, off, k, M, K => bif Nat.blt off n then none else kspB xs (Nat.sub off n) k M fun r => K (.sis kd n l :: r)
  | _ :: _, 0, _, _, _ => none
  | x :: xs, off + 1, k, M, K => kspB xs off k M fun r => K (x :: r)
def kspI (kd : IntKind) : List KV → Nat → List Int → (List KV → R) → R
  | [], _, _, _ => none
  | .sis k n l :: xs, off, src, K => bif Nat.blt off n then gd (eqIK kd k && Nat.ble (Nat.add off src.length) n) (kapp (l.take off) (kapps src (l.drop (Nat.add off src.length))) fun l => K (.sis k n l :: xs)) else kspI kd xs (Nat.sub off n) src fun r => K (.sis k n l :: r)
  | .sbs n l :: xs, off, src, K => bif Nat.blt off n then none else kspI kd xs (Nat.sub off n) src fun r => K (.sbs n l :: r)
  | _ :: _, 0, _, _ => none
  | x :: xs, off + 1, src, K => kspI kd xs off src fun r => K (x :: r)
def kcpy (S : KH) (nx : Pos) (x y : KV) (K : KV → KH → Pos → R) : R := match x with
  | .sl sz n off len => KH.getR S n fun o => match o with
    | .bytes l L => ksrc S y fun m M => gd (Nat.beq sz 1 && Nat.blt 0 len && Nat.ble (Nat.add off len) l) (forR (minN m len) fun k => forR (pput L off k M) fun N => KH.setR n S (.bytes l N) fun S => K (.int .i64 (.ofNat k)) S nx)
    | _ => none
  | .slx sz n off len cap => KH.getR S n fun o => match o with
    | .cells cs => kdrop cs off fun r => match r with
      | .sbs m _ :: _ => ksrc S y fun m2 M => gd (Nat.beq sz 1 && Nat.ble len m) (forR (minN m2 len) fun k => kspB cs off k M fun cs => KH.setR n S (.cells cs) fun S => K (.int .i64 (.ofNat k)) S nx)
      | .sis kd m _ :: _ => kcontI S y fun kd' src => gd (Nat.beq sz 1 && eqIK kd kd' && Nat.ble len m) (forR (minN src.length len) fun k => kspI kd cs off (src.take len) fun cs => KH.setR n S (.cells cs) fun S => K (.int .i64 (.ofNat k)) S nx)
      | _ => none
    | _ => none
  | _ => none
def krep {α : Type} (x : α) : Nat → (List α → R) → R
  | 0, K => K []
  | n + 1, K => krep x n fun r => K (x :: r)
def kh_mmk (G : KG) (S : KH) (nx : Pos) (fr : KT) (K : KV → KH → Pos → R) : R := KH.newR S nx (.mp []) fun S nx' => K (.map nx) S nx'
def kh_alloc (cs : List SV) (G : KG) (S : KH) (nx : Pos) (fr : KT) (K : KV → KH → Pos → R) : R := kcsts cs fun cs => KH.newR S nx (.cells cs) fun S nx' => K (.ptr nx 0) S nx'
def kh_box (x : Opd) (G : KG) (S : KH) (nx : Pos) (fr : KT) (K : KV → KH → Pos → R) : R := kev G fr x fun v => kcells v fun cs => KH.newR S nx (.cells cs) fun S nx' => K (.ptr nx 0) S nx'
def kh_bslice (sz : Nat) (len : Nat) (xs : List Opd) (G : KG) (S : KH) (nx : Pos) (fr : KT) (K : KV → KH → Pos → R) : R := kelems G fr sz xs fun es => gd (Nat.beq es.length len) (KH.newR S nx (.arr sz len es) fun S nx' => K (.sl sz nx 0 len) S nx')
def kh_bbytes (xs : List Opd) (G : KG) (S : KH) (nx : Pos) (fr : KT) (K : KV → KH → Pos → R) : R := kbytes G fr xs fun l => forR xs.length fun n => KH.newR S nx (.bytes n l) fun S nx' => K (.sl 1 nx 0 n) S nx'
def kh_mkb (x : Opd) (G : KG) (S : KH) (nx : Pos) (fr : KT) (K : KV → KH → Pos → R) : R := kev G fr x fun v => match v with
  | .int _ (.ofNat n) => gd (Nat.ble n 140737488355328) (KH.newR S nx (.bytes n 0) fun S nx' => K (.sl 1 nx 0 n) S nx')
  | _ => none
def kh_mksl (sz : Nat) (zero : List SV) (b : Nat) (x : Opd) (G : KG) (S : KH) (nx : Pos) (fr : KT) (K : KV → KH → Pos → R) : R := kev G fr x fun v => match v with
  | .int _ (.ofNat n) => gd (Nat.ble (Nat.mul b n) 140737488355328) (kcsts zero fun z => krep z n fun l => KH.newR S nx (.arr sz n l) fun S nx' => K (.sl sz nx 0 n) S nx')
  | _ => none
def kh_s2s (x : Opd) (G : KG) (S : KH) (nx : Pos) (fr : KT) (K : KV → KH → Pos → R) : R := kev G fr x fun v => match v with
  | .sl sz n off len => KH.getR S n fun o => match o with
    | .bytes l _ => gd (Nat.blt 0 l && Nat.beq off 0) (K (.sl sz n off len) S nx)
    | _ => none
  | _ => none
def kh_store1 (a : Opd) (v : Opd) (G : KG) (S : KH) (nx : Pos) (fr : KT) (K : KV → KH → Pos → R) : R := kev G fr a fun a => kev G fr v fun v => ksingle v fun v => kstore1 S nx a v K
def kh_storeN (n : Nat) (a : Opd) (v : Opd) (G : KG) (S : KH) (nx : Pos) (fr : KT) (K : KV → KH → Pos → R) : R := kev G fr a fun a => kev G fr v fun v => kstoreN S nx n a v K
def kh_appb (x : Opd) (y : Opd) (G : KG) (S : KH) (nx : Pos) (fr : KT) (K : KV → KH → Pos → R) : R := kev G fr x fun x => kev G fr y fun y => kcont S y fun m M => kappb S nx x m M K
def kh_appz (x : Opd) (n : Opd) (G : KG) (S : KH) (nx : Pos) (fr : KT) (K : KV → KH → Pos → R) : R := kev G fr x fun x => kev G fr n fun n => match n with
  | .int _ (.ofNat m) => gd (Nat.ble m 140737488355328) (kappb S nx x m 0 K)
  | _ => none
def kh_app (sz : Nat) (b : Nat) (x : Opd) (y : Opd) (G : KG) (S : KH) (nx : Pos) (fr : KT) (K : KV → KH → Pos → R) : R := kev G fr x fun x => kev G fr y fun y => kcontE S sz y fun m F => kappE S nx sz b x m F K
def kh_mset (s : Bool) (x : Opd) (k : Opd) (v : Opd) (G : KG) (S : KH) (nx : Pos) (fr : KT) (K : KV → KH → Pos → R) : R := kev G fr x fun m => kev G fr k fun k => kev G fr v fun v => match m with
  | .map n => KH.getR S n fun o => match o with
    | .mp es => gd (kisKey s k k && kallKeys s k es) (kmput es k v fun es => KH.setR n S (.mp es) fun S => K (.tup []) S nx)
    | _ => none
  | _ => none
def kh_mdel (s : Bool) (x : Opd) (k : Opd) (G : KG) (S : KH) (nx : Pos) (fr : KT) (K : KV → KH → Pos → R) : R := kev G fr x fun m => kev G fr k fun k => match m with
  | .map n => KH.getR S n fun o => match o with
    | .mp es => gd (kisKey s k k && kallKeys s k es) (kmdel es k fun es => KH.setR n S (.mp es) fun S => K (.tup []) S nx)
    | _ => none
  | _ => none
def kh_mclr (x : Opd) (G : KG) (S : KH) (nx : Pos) (fr : KT) (K : KV → KH → Pos → R) : R := kev G fr x fun m => match m with
  | .map n => KH.getR S n fun o => match o with
    | .mp _ => KH.setR n S (.mp []) fun S => K (.tup []) S nx
    | _ => none
  | _ => none
def kh_cpy (x : Opd) (y : Opd) (G : KG) (S : KH) (nx : Pos) (fr : KT) (K : KV → KH → Pos → R) : R := kev G fr x fun x => kev G fr y fun y => kcpy S nx x y K
def kh (G : KG) (S : KH) (nx : Pos) (fr : KT) (c : COp) (K : KV → KH → Pos → R) : R :=
  @COp.rec (fun _ => KG → KH → Pos → KT → (KV → KH → Pos → R) → R) (fun _ _ _ _ _ _ => none) (fun _ _ _ _ _ _ _ _ => none) (fun _ _ _ _ _ _ => none) (fun _ _ _ _ _ _ => none) (fun _ _ _ _ _ _ _ => none) (fun _ _ _ _ _ _ => none) (fun _ _ _ _ _ _ _ _ => none) (fun _ _ _ _ _ _ _ _ => none) (fun _ _ _ _ _ _ _ _ => none) (fun _ _ _ _ _ _ _ => none) (fun _ _ _ _ _ _ _ => none) (fun _ _ _ _ _ _ => none) (fun _ _ _ _ _ _ _ => none) (fun _ _ _ _ _ _ _ => none) (fun _ _ _ _ _ _ _ _ => none) (fun _ _ _ _ _ _ _ _ _ => none) (fun _ _ _ _ _ _ _ _ => none) (fun _ _ _ _ _ _ _ => none) (fun _ _ _ _ _ _ _ _ => none) (fun _ _ _ _ _ _ _ _ _ _ => none) (fun _ _ _ _ _ _ _ _ _ => none) (fun _ _ _ _ _ _ _ _ => none) (fun _ _ _ _ _ _ _ => none) (fun _ _ _ _ _ _ _ => none) (fun _ _ _ _ _ _ _ _ => none) (fun _ _ _ _ _ _ _ _ _ => none) (fun _ _ _ _ _ _ _ => none) (fun _ _ _ _ _ _ _ _ _ _ => none) (fun _ _ _ _ _ _ => none) (fun _ _ _ _ _ _ _ _ => none) (fun _ _ _ _ _ => none) kh_mmk kh_alloc kh_box kh_bslice kh_bbytes kh_mkb kh_mksl (fun _ _ _ _ _ _ => none) kh_s2s kh_store1 kh_storeN kh_appb kh_appz kh_app kh_mset kh_mdel kh_mclr kh_cpy (fun _ _ _ _ _ _ _ => none) (fun _ _ _ _ _ _ _ => none) c G S nx fr K
def kd_mov (z0 : Opd) (G : KG) (S : KH) (nx : Pos) (fr : KT) (call : Nat → List Opd → R) (K : KV → KH → Pos → R) : R := kq_mov z0 G S fr fun v => K v S nx
def kd_pick (z0 : Opd) (z1 : Opd) (z2 : Opd) (G : KG) (S : KH) (nx : Pos) (fr : KT) (call : Nat → List Opd → R) (K : KV → KH → Pos → R) : R := kq_pick z0 z1 z2 G S fr fun v => K v S nx
def kd_build (z0 : List Piece) (G : KG) (S : KH) (nx : Pos) (fr : KT) (call : Nat → List Opd → R) (K : KV → KH → Pos → R) : R := kq_build z0 G S fr fun v => K v S nx
def kd_load1 (z0 : Opd) (G : KG) (S : KH) (nx : Pos) (fr : KT) (call : Nat → List Opd → R) (K : KV → KH → Pos → R) : R := kq_load1 z0 G S fr fun v => K v S nx
def kd_loadN (z0 : Nat) (z1 : Opd) (G : KG) (S : KH) (nx : Pos) (fr : KT) (call : Nat → List Opd → R) (K : KV → KH → Pos → R) : R := kq_loadN z0 z1 G S fr fun v => K v S nx
def kd_nilck (z0 : Opd) (G : KG) (S : KH) (nx : Pos) (fr : KT) (call : Nat → List Opd → R) (K : KV → KH → Pos → R) : R := kq_nilck z0 G S fr fun v => K v S nx
def kd_bin (z0 : BinOp) (z1 : Opd) (z2 : Opd) (G : KG) (S : KH) (nx : Pos) (fr : KT) (call : Nat → List Opd → R) (K : KV → KH → Pos → R) : R := kq_bin z0 z1 z2 G S fr fun v => K v S nx
def kd_eqb (z0 : Bool) (z1 : Opd) (z2 : Opd) (G : KG) (S : KH) (nx : Pos) (fr : KT) (call : Nat → List Opd → R) (K : KV → KH → Pos → R) : R := kq_eqb z0 z1 z2 G S fr fun v => K v S nx
def kd_eqp (z0 : Bool) (z1 : Opd) (z2 : Opd) (G : KG) (S : KH) (nx : Pos) (fr : KT) (call : Nat → List Opd → R) (K : KV → KH → Pos → R) : R := kq_eqp z0 z1 z2 G S fr fun v => K v S nx
def kd_un (z0 : UnOp) (z1 : Opd) (G : KG) (S : KH) (nx : Pos) (fr : KT) (call : Nat → List Opd → R) (K : KV → KH → Pos → R) : R := kq_un z0 z1 G S fr fun v => K v S nx
def kd_cint (z0 : IntKind) (z1 : Opd) (G : KG) (S : KH) (nx : Pos) (fr : KT) (call : Nat → List Opd → R) (K : KV → KH → Pos → R) : R := kq_cint z0 z1 G S fr fun v => K v S nx
def kd_b2s (z0 : Opd) (G : KG) (S : KH) (nx : Pos) (fr : KT) (call : Nat → List Opd → R) (K : KV → KH → Pos → R) : R := kq_b2s z0 G S fr fun v => K v S nx
def kd_s2ap (z0 : Nat) (z1 : Opd) (G : KG) (S : KH) (nx : Pos) (fr : KT) (call : Nat → List Opd → R) (K : KV → KH → Pos → R) : R := kq_s2ap z0 z1 G S fr fun v => K v S nx
def kd_faddr (z0 : Nat) (z1 : Opd) (G : KG) (S : KH) (nx : Pos) (fr : KT) (call : Nat → List Opd → R) (K : KV → KH → Pos → R) : R := kq_faddr z0 z1 G S fr fun v => K v S nx
def kd_field (z0 : Nat) (z1 : Option Nat) (z2 : Opd) (G : KG) (S : KH) (nx : Pos) (fr : KT) (call : Nat → List Opd → R) (K : KV → KH → Pos → R) : R := kq_field z0 z1 z2 G S fr fun v => K v S nx
def kd_ixarr (z0 : Nat) (z1 : Nat) (z2 : Opd) (z3 : Opd) (G : KG) (S : KH) (nx : Pos) (fr : KT) (call : Nat → List Opd → R) (K : KV → KH → Pos → R) : R := kq_ixarr z0 z1 z2 z3 G S fr fun v => K v S nx
def kd_ixsl (z0 : Nat) (z1 : Opd) (z2 : Opd) (G : KG) (S : KH) (nx : Pos) (fr : KT) (call : Nat → List Opd → R) (K : KV → KH → Pos → R) : R := kq_ixsl z0 z1 z2 G S fr fun v => K v S nx
def kd_idxstr (z0 : Opd) (z1 : Opd) (G : KG) (S : KH) (nx : Pos) (fr : KT) (call : Nat → List Opd → R) (K : KV → KH → Pos → R) : R := kq_idxstr z0 z1 G S fr fun v => K v S nx
def kd_idxagg (z0 : Nat) (z1 : Opd) (z2 : Opd) (G : KG) (S : KH) (nx : Pos) (fr : KT) (call : Nat → List Opd → R) (K : KV → KH → Pos → R) : R := kq_idxagg z0 z1 z2 G S fr fun v => K v S nx
def kd_slarr (z0 : Nat) (z1 : Nat) (z2 : Opd) (z3 : Option Opd) (z4 : Option Opd) (G : KG) (S : KH) (nx : Pos) (fr : KT) (call : Nat → List Opd → R) (K : KV → KH → Pos → R) : R := kq_slarr z0 z1 z2 z3 z4 G S fr fun v => K v S nx
def kd_slsl (z0 : Nat) (z1 : Opd) (z2 : Option Opd) (z3 : Option Opd) (G : KG) (S : KH) (nx : Pos) (fr : KT) (call : Nat → List Opd → R) (K : KV → KH → Pos → R) : R := kq_slsl z0 z1 z2 z3 G S fr fun v => K v S nx
def kd_slstr (z0 : Opd) (z1 : Option Opd) (z2 : Option Opd) (G : KG) (S : KH) (nx : Pos) (fr : KT) (call : Nat → List Opd → R) (K : KV → KH → Pos → R) : R := kq_slstr z0 z1 z2 G S fr fun v => K v S nx
def kd_ext (z0 : Opd) (z1 : Nat) (G : KG) (S : KH) (nx : Pos) (fr : KT) (call : Nat → List Opd → R) (K : KV → KH → Pos → R) : R := kq_ext z0 z1 G S fr fun v => K v S nx
def kd_len (z0 : Bool) (z1 : Opd) (G : KG) (S : KH) (nx : Pos) (fr : KT) (call : Nat → List Opd → R) (K : KV → KH → Pos → R) : R := kq_len z0 z1 G S fr fun v => K v S nx
def kd_mm (z0 : Bool) (z1 : Opd) (z2 : Opd) (G : KG) (S : KH) (nx : Pos) (fr : KT) (call : Nat → List Opd → R) (K : KV → KH → Pos → R) : R := kq_mm z0 z1 z2 G S fr fun v => K v S nx
def kd_eqa (z0 : Bool) (z1 : List LK) (z2 : Opd) (z3 : Opd) (G : KG) (S : KH) (nx : Pos) (fr : KT) (call : Nat → List Opd → R) (K : KV → KH → Pos → R) : R := kq_eqa z0 z1 z2 z3 G S fr fun v => K v S nx
def kd_eqn (z0 : Bool) (z1 : Opd) (G : KG) (S : KH) (nx : Pos) (fr : KT) (call : Nat → List Opd → R) (K : KV → KH → Pos → R) : R := kq_eqn z0 z1 G S fr fun v => K v S nx
def kd_mget (z0 : Bool) (z1 : Bool) (z2 : SV) (z3 : Opd) (z4 : Opd) (G : KG) (S : KH) (nx : Pos) (fr : KT) (call : Nat → List Opd → R) (K : KV → KH → Pos → R) : R := kq_mget z0 z1 z2 z3 z4 G S fr fun v => K v S nx
def kd_mlen (z0 : Opd) (G : KG) (S : KH) (nx : Pos) (fr : KT) (call : Nat → List Opd → R) (K : KV → KH → Pos → R) : R := kq_mlen z0 G S fr fun v => K v S nx
def kd_cmpb (z0 : Nat) (z1 : Opd) (z2 : Opd) (G : KG) (S : KH) (nx : Pos) (fr : KT) (call : Nat → List Opd → R) (K : KV → KH → Pos → R) : R := kq_cmpb z0 z1 z2 G S fr fun v => K v S nx
def kd_mmk  (G : KG) (S : KH) (nx : Pos) (fr : KT) (call : Nat → List Opd → R) (K : KV → KH → Pos → R) : R := kh_mmk  G S nx fr K
def kd_alloc (z0 : List SV) (G : KG) (S : KH) (nx : Pos) (fr : KT) (call : Nat → List Opd → R) (K : KV → KH → Pos → R) : R := kh_alloc z0 G S nx fr K
def kd_box (z0 : Opd) (G : KG) (S : KH) (nx : Pos) (fr : KT) (call : Nat → List Opd → R) (K : KV → KH → Pos → R) : R := kh_box z0 G S nx fr K
def kd_bslice (z0 : Nat) (z1 : Nat) (z2 : List Opd) (G : KG) (S : KH) (nx : Pos) (fr : KT) (call : Nat → List Opd → R) (K : KV → KH → Pos → R) : R := kh_bslice z0 z1 z2 G S nx fr K
def kd_bbytes (z0 : List Opd) (G : KG) (S : KH) (nx : Pos) (fr : KT) (call : Nat → List Opd → R) (K : KV → KH → Pos → R) : R := kh_bbytes z0 G S nx fr K
def kd_mkb (z0 : Opd) (G : KG) (S : KH) (nx : Pos) (fr : KT) (call : Nat → List Opd → R) (K : KV → KH → Pos → R) : R := kh_mkb z0 G S nx fr K
def kd_mksl (z0 : Nat) (z1 : List SV) (z2 : Nat) (z3 : Opd) (G : KG) (S : KH) (nx : Pos) (fr : KT) (call : Nat → List Opd → R) (K : KV → KH → Pos → R) : R := kh_mksl z0 z1 z2 z3 G S nx fr K
def kd_s2s (z0 : Opd) (G : KG) (S : KH) (nx : Pos) (fr : KT) (call : Nat → List Opd → R) (K : KV → KH → Pos → R) : R := kh_s2s z0 G S nx fr K
def kd_store1 (z0 : Opd) (z1 : Opd) (G : KG) (S : KH) (nx : Pos) (fr : KT) (call : Nat → List Opd → R) (K : KV → KH → Pos → R) : R := kh_store1 z0 z1 G S nx fr K
def kd_storeN (z0 : Nat) (z1 : Opd) (z2 : Opd) (G : KG) (S : KH) (nx : Pos) (fr : KT) (call : Nat → List Opd → R) (K : KV → KH → Pos → R) : R := kh_storeN z0 z1 z2 G S nx fr K
def kd_appb (z0 : Opd) (z1 : Opd) (G : KG) (S : KH) (nx : Pos) (fr : KT) (call : Nat → List Opd → R) (K : KV → KH → Pos → R) : R := kh_appb z0 z1 G S nx fr K
def kd_appz (z0 : Opd) (z1 : Opd) (G : KG) (S : KH) (nx : Pos) (fr : KT) (call : Nat → List Opd → R) (K : KV → KH → Pos → R) : R := kh_appz z0 z1 G S nx fr K
def kd_app (z0 : Nat) (z1 : Nat) (z2 : Opd) (z3 : Opd) (G : KG) (S : KH) (nx : Pos) (fr : KT) (call : Nat → List Opd → R) (K : KV → KH → Pos → R) : R := kh_app z0 z1 z2 z3 G S nx fr K
def kd_mset (z0 : Bool) (z1 : Opd) (z2 : Opd) (z3 : Opd) (G : KG) (S : KH) (nx : Pos) (fr : KT) (call : Nat → List Opd → R) (K : KV → KH → Pos → R) : R := kh_mset z0 z1 z2 z3 G S nx fr K
def kd_mdel (z0 : Bool) (z1 : Opd) (z2 : Opd) (G : KG) (S : KH) (nx : Pos) (fr : KT) (call : Nat → List Opd → R) (K : KV → KH → Pos → R) : R := kh_mdel z0 z1 z2 G S nx fr K
def kd_mclr (z0 : Opd) (G : KG) (S : KH) (nx : Pos) (fr : KT) (call : Nat → List Opd → R) (K : KV → KH → Pos → R) : R := kh_mclr z0 G S nx fr K
def kd_cpy (z0 : Opd) (z1 : Opd) (G : KG) (S : KH) (nx : Pos) (fr : KT) (call : Nat → List Opd → R) (K : KV → KH → Pos → R) : R := kh_cpy z0 z1 G S nx fr K
def kd_call (z0 : Nat) (z1 : List Opd) (G : KG) (S : KH) (nx : Pos) (fr : KT) (call : Nat → List Opd → R) (K : KV → KH → Pos → R) : R := call z0 z1
def kdo (G : KG) (S : KH) (nx : Pos) (fr : KT) (c : COp) (call : Nat → List Opd → R) (K : KV → KH → Pos → R) : R :=
  @COp.rec (fun _ => KG → KH → Pos → KT → (Nat → List Opd → R) → (KV → KH → Pos → R) → R) kd_mov kd_pick kd_build kd_load1 kd_loadN kd_nilck kd_bin kd_eqb kd_eqp kd_un kd_cint kd_b2s kd_s2ap kd_faddr kd_field kd_ixarr kd_ixsl kd_idxstr kd_idxagg kd_slarr kd_slsl kd_slstr kd_ext kd_len kd_mm kd_eqa kd_eqn kd_mget kd_mlen kd_cmpb (fun _ _ _ _ _ _ => none) kd_mmk kd_alloc kd_box kd_bslice kd_bbytes kd_mkb kd_mksl (fun _ _ _ _ _ _ _ => none) kd_s2s kd_store1 kd_storeN kd_appb kd_appz kd_app kd_mset kd_mdel kd_mclr kd_cpy kd_call (fun _ _ _ _ _ _ _ _ => none) c G S nx fr call K
def kop (G : KG) (S : KH) (nx : Pos) (fr : KT) (c : COp) (K : KV → KH → Pos → R) : R :=
  bif c.quiet then kq G S fr c fun v => K v S nx else kh G S nx fr c K
def kdst (fr : KT) (dst : Option Pth) (v : KV) (K : KT → R) : R := match dst with
  | none => K fr
  | some p => KT.setR fr p v K
def kdst2 (fr : KT) (dst : Option Pth) (v : KV) (K : KT → R) : R := match dst with
  | none => K fr
  | some p => match v with
    | .tup [] => none
    | v => KT.setR fr p v K
def ksp (sp : Bool) (v : KV) (K : KV → R) : R := bif sp then (match v with | .bool b => K (.bool b) | _ => none) else K v
def kgd1 (fr : KT) (s : Pth) (b : Bool) (yes no : R) : R := KT.getR fr s fun v => match v with
  | .bool t => bif (bif t then b else !b) then yes else no
  | .tup [] => no
  | _ => none
def kgd (fr : KT) (g : Option (Pth × Bool)) (yes no : R) : R := Option.casesOn (motive := fun _ => R) g yes fun x => kgd1 fr x.1 x.2 yes no
def kargs (fr : KT) (ps : List Pth) : List KV → (KT → R) → R :=
  List.rec (motive := fun _ => KT → List KV → (KT → R) → R) (fun fr vs K => List.casesOn vs (K fr) fun _ _ => none)
    (fun p _ ih fr vs K => List.casesOn vs none fun v vs => KT.setR fr p v fun fr => ih fr vs K) ps fr
def kres (S : KH) (fr : KT) (ts : List RV) : (List KV → R) → R :=
  List.rec (motive := fun _ => (List KV → R) → R) (fun K => K []) (fun t _ ih K => match t with
    | .t p => KT.getR fr p fun v => ih fun vs => K (v :: vs)
    | .c1 p => KT.getR fr p fun a => match a with
      | .ptr n off => KH.getR S n fun o => match o with
        | .cells cs => kcell cs off fun v => ih fun vs => K (v :: vs)
        | _ => none
      | _ => none
    | .cN m p => KT.getR fr p fun a => match a with
      | .ptr n off => KH.getR S n fun o => match o with
        | .cells cs => kdrop cs off fun cs => ktake cs m fun r => ih fun vs => K (.agg r :: vs)
        | _ => none
      | _ => none) ts
def kret (S : KH) (fr : KT) (res : List RV) (K : KV → R) : R := kres S fr res fun vs => match vs with
  | [v] => K v
  | vs => K (.tup vs)
def kFT : FT → KT
  | .nil => .nil
  | .lf v => match v with
    | .tup [] => .lf (.tup [])
    | _ => .nil
  | .nd l r => .nd (kFT l) (kFT r)
mutual
def keq : KV → KV → Bool
  | .int k n, .int k' n' => eqIK k k' && eqZ n n'
  | .byte n, .byte n' => Nat.beq n n'
  | .bool b, .bool b' => !xor b b'
  | .str l n, .str l' n' => Nat.beq l l' && Nat.beq n n'
  | .nilptr, .nilptr => true
  | .nilsl, .nilsl => true
  | .nilmap, .nilmap => true
  | .nilfn, .nilfn => true
  | .nilif, .nilif => true
  | .ptr n o, .ptr n' o' => Pos.eqb n n' && Nat.beq o o'
  | .ixp n o s i, .ixp n' o' s' i' => Pos.eqb n n' && Nat.beq o o' && Nat.beq s s' && Nat.beq i i'
  | .sl s n o l, .sl s' n' o' l' => Nat.beq s s' && Pos.eqb n n' && Nat.beq o o' && Nat.beq l l'
  | .slx s n o l c, .slx s' n' o' l' c' => Nat.beq s s' && Pos.eqb n n' && Nat.beq o o' && Nat.beq l l' && Nat.beq c c'
  | .map n, .map n' => Pos.eqb n n'
  | .ip cs, .ip cs' => keqs cs cs'
  | .agg cs, .agg cs' => keqs cs cs'
  | .tup cs, .tup cs' => keqs cs cs'
  | .sbs l n, .sbs l' n' => Nat.beq l l' && Nat.beq n n'
  | .sis k l n, .sis k' l' n' => eqIK k k' && Nat.beq l l' && eqIs n n'
  | .fn f, .fn f' => Nat.beq f f'
  | _, _ => false
def keqs : List KV → List KV → Bool
  | [], [] => true
  | x :: xs, y :: ys => keq x y && keqs xs ys
  | _, _ => false
end
def ksplit : KP → List Nat → (KP → KP → R) → R
  | [], _, K => K [] []
  | x :: p, due, K => ksplit p due fun a b => bif isIn x.1 due then K (x :: a) b else K a (x :: b)
def kadd (S : KH) : KP → (KH → R) → R
  | [], K => K S
  | (_, n, o) :: p, K => kadd S p fun S => KH.setR n S o K
def kre (G : KG) (S : KH) (fr : KT) : List (Nat × ROp) → R → R
  | [], K => K
  | (_, o) :: os, K => kgd fr o.g (kq G S fr o.c fun v => match o.dst with
    | some d => KT.getR fr d fun v' => gd (keq v v') (kre G S fr os K)
    | none => none) (match o.dst with
    | some d => KT.getR fr d fun v' => gd (keq (.tup []) v') (kre G S fr os K)
    | none => none)
def knew (G : KG) (nx : Pos) (fr : KT) (c : COp) (K : KV → KObj → R) : R := match c with
  | .alloc cs => kcsts cs fun cs => K (.ptr nx 0) (.cells cs)
  | .box x => kev G fr x fun v => kcells v fun cs => K (.ptr nx 0) (.cells cs)
  | .bslice sz len xs => kelems G fr sz xs fun es => gd (Nat.beq es.length len) (K (.sl sz nx 0 len) (.arr sz len es))
  | .bbytes xs => kbytes G fr xs fun l => forR xs.length fun n => K (.sl 1 nx 0 n) (.bytes n l)
  | .mmk => K (.map nx) (.mp [])
  | _ => none
def kgetP : KP → Nat → (Pos → KObj → R) → R
  | [], _, _ => none
  | (j, n, ob) :: p, i, K => bif Nat.beq j i then K n ob else kgetP p i K
def kms (G : KG) (fr : KT) (p : KP) (c : COp) (src : Nat) (K : KV → R) : R := match c with
  | .s2s x => kev G fr x fun v => match v with
    | .sl sz n off len => kgetP p src fun m ob => match ob with
      | .bytes l _ => gd (Pos.eqb n m && Nat.beq off 0 && Nat.blt 0 l) (K (.sl sz n off len))
      | _ => none
    | _ => none
  | _ => none
abbrev KTab := Nat → Option CF
abbrev KPr := Nat → Option (List KV → KH → Pos → (KV → KH → Pos → R) → R)
def kcall (G : KG) (T : KTab) (X : KPr) (fr : KT) (f : Nat) (args : List Opd) (S : KH) (nx : Pos) (run : CF → KT → R) (fin : KV → KH → Pos → R) : R :=
  kevs G fr args fun vs => match X f with
    | some x => x vs S nx fin
    | none => match T f with
      | some F => kargs (kFT F.fr0) F.par vs fun fr' => run F fr'
      | none => none
def kc_cond (c : Opd) (a b : CC) (k : KK) (fr : KT) (S : KH) (nx : Pos) (G : KG) (K : KSt → R) : R := kev G fr c fun v => kv4 v (fun _ _ => none) (fun _ => none) (fun t => bif t then K (.code a k fr S nx) else K (.code b k fr S nx)) (fun _ _ => none) none
def kcode (c : CC) (k : KK) (fr : KT) (S : KH) (nx : Pos) (G : KG) (T : KTab) (X : KPr) (K : KSt → R) : R :=
  @CC.casesOn (fun _ => KK → KT → KH → Pos → KG → (KSt → R) → R) c (fun k fr S nx _ K => K (.exit .norm k fr S nx)) (fun os k fr S nx _ K => K (.ops os k fr S nx)) (fun ds k fr S nx _ K => K (.dops ds [] k fr S nx))
    (fun a b k fr S nx _ K => K (.code a (.seq b k) fr S nx)) kc_cond (fun id a k fr S nx _ K => K (.code a (.block id k) fr S nx)) (fun a k fr S nx _ K => K (.code a (.loop a k) fr S nx))
    (fun id k fr S nx _ K => K (.exit (.exit id) k fr S nx)) (fun k fr S nx _ K => K (.exit .ret k fr S nx)) (fun _ _ _ _ _ _ => none) k fr S nx G K
def kops1 (o : ROp) (os : List ROp) (k : KK) (fr : KT) (S : KH) (nx : Pos) (G : KG) (T : KTab) (X : KPr) (K : KSt → R) : R :=
  kgd fr o.g (kdo G S nx fr o.c (fun f args => kcall G T X fr f args S nx (fun F fr' => K (.code F.code (.call fr o os F.res k) fr' S nx)) fun v S nx => ksp o.sp v fun v => kdst fr o.dst v fun fr => K (.ops os k fr S nx))
      fun v S nx => ksp o.sp v fun v => kdst2 fr o.dst v fun fr => K (.ops os k fr S nx))
    (kdst fr o.dst (.tup []) fun fr => K (.ops os k fr S nx))
def kops (os : List ROp) (k : KK) (fr : KT) (S : KH) (nx : Pos) (G : KG) (T : KTab) (X : KPr) (K : KSt → R) : R :=
  @List.casesOn ROp (fun _ => KK → KT → KH → Pos → KG → KTab → KPr → (KSt → R) → R) os (fun k fr S nx _ _ _ K => K (.exit .norm k fr S nx)) kops1 k fr S nx G T X K
def kds_q (i : Nat) (o : ROp) (ds : List DStep) (p : KP) (k : KK) (fr : KT) (S : KH) (nx : Pos) (G : KG) (T : KTab) (X : KPr) (K : KSt → R) : R :=
  kgd fr o.g (kq G S fr o.c fun v => ksp o.sp v fun v => kdst fr o.dst v fun fr => K (.dops ds p k fr S nx)) (kdst fr o.dst (.tup []) fun fr => K (.dops ds p k fr S nx))
def kds_al (i : Nat) (o : ROp) (ds : List DStep) (p : KP) (k : KK) (fr : KT) (S : KH) (nx : Pos) (G : KG) (T : KTab) (X : KPr) (K : KSt → R) : R :=
  kgd fr o.g (knew G nx fr o.c fun v ob => kdst fr o.dst v fun fr => Pos.succR nx fun nx' => kapp p [(i, nx, ob)] fun p => K (.dops ds p k fr S nx')) (kdst fr o.dst (.tup []) fun fr => K (.dops ds p k fr S nx))
def kds_ms (i : Nat) (o : ROp) (src : Nat) (ds : List DStep) (p : KP) (k : KK) (fr : KT) (S : KH) (nx : Pos) (G : KG) (T : KTab) (X : KPr) (K : KSt → R) : R :=
  kgd fr o.g (kms G fr p o.c src fun v => kdst fr o.dst v fun fr => K (.dops ds p k fr S nx)) (kdst fr o.dst (.tup []) fun fr => K (.dops ds p k fr S nx))
def kds_ef (i : Nat) (o : ROp) (due : List Nat) (re : List (Nat × ROp)) (ds : List DStep) (p : KP) (k : KK) (fr : KT) (S : KH) (nx : Pos) (G : KG) (T : KTab) (X : KPr) (K : KSt → R) : R :=
  ksplit p due fun a p => kadd S a fun S => kgd fr o.g (kdo G S nx fr o.c (fun f args => kcall G T X fr f args S nx (fun F fr' => K (.code F.code (.dcall fr o re ds p F.res k) fr' S nx)) fun v S nx => ksp o.sp v fun v => kdst fr o.dst v fun fr => kre G S fr re (K (.dops ds p k fr S nx)))
      fun v S nx => ksp o.sp v fun v => kdst2 fr o.dst v fun fr => kre G S fr re (K (.dops ds p k fr S nx)))
    (kdst fr o.dst (.tup []) fun fr => kre G S fr re (K (.dops ds p k fr S nx)))
def kdops1 (d : DStep) (ds : List DStep) (p : KP) (k : KK) (fr : KT) (S : KH) (nx : Pos) (G : KG) (T : KTab) (X : KPr) (K : KSt → R) : R :=
  @DStep.casesOn (fun _ => List DStep → KP → KK → KT → KH → Pos → KG → KTab → KPr → (KSt → R) → R) d kds_q kds_al kds_ms kds_ef ds p k fr S nx G T X K
def kdops0 (p : KP) (k : KK) (fr : KT) (S : KH) (nx : Pos) (G : KG) (T : KTab) (X : KPr) (K : KSt → R) : R := kadd S p fun S => K (.exit .norm k fr S nx)
def kdops (ds : List DStep) (p : KP) (k : KK) (fr : KT) (S : KH) (nx : Pos) (G : KG) (T : KTab) (X : KPr) (K : KSt → R) : R :=
  @List.casesOn DStep (fun _ => KP → KK → KT → KH → Pos → KG → KTab → KPr → (KSt → R) → R) ds kdops0 kdops1 p k fr S nx G T X K
def kx_done (res : List RV) (x : Xt) (fr : KT) (S : KH) (nx : Pos) (G : KG) (K : KSt → R) : R := match x with
  | .exit _ => none
  | _ => kret S fr res fun v => K (.fin v S nx)
def kx_seq (b : CC) (k : KK) (x : Xt) (fr : KT) (S : KH) (nx : Pos) (G : KG) (K : KSt → R) : R := match x with
  | .norm => K (.code b k fr S nx)
  | x => K (.exit x k fr S nx)
def kx_block (id : Nat) (k : KK) (x : Xt) (fr : KT) (S : KH) (nx : Pos) (G : KG) (K : KSt → R) : R := match x with
  | .exit j => bif Nat.beq j id then K (.exit .norm k fr S nx) else K (.exit (.exit j) k fr S nx)
  | x => K (.exit x k fr S nx)
def kx_loop (a : CC) (k : KK) (x : Xt) (fr : KT) (S : KH) (nx : Pos) (G : KG) (K : KSt → R) : R := match x with
  | .norm => K (.code a (.loop a k) fr S nx)
  | x => K (.exit x k fr S nx)
def kx_call (fr' : KT) (o : ROp) (os : List ROp) (res : List RV) (k : KK) (x : Xt) (fr : KT) (S : KH) (nx : Pos) (G : KG) (K : KSt → R) : R := match x with
  | .exit _ => none
  | _ => kret S fr res fun v => ksp o.sp v fun v => kdst fr' o.dst v fun fr' => K (.ops os k fr' S nx)
def kx_dcall (fr' : KT) (o : ROp) (re : List (Nat × ROp)) (ds : List DStep) (p : KP) (res : List RV) (k : KK) (x : Xt) (fr : KT) (S : KH) (nx : Pos) (G : KG) (K : KSt → R) : R := match x with
  | .exit _ => none
  | _ => kret S fr res fun v => ksp o.sp v fun v => kdst fr' o.dst v fun fr' => kre G S fr' re (K (.dops ds p k fr' S nx))
def kexit (x : Xt) (k : KK) (fr : KT) (S : KH) (nx : Pos) (G : KG) (T : KTab) (X : KPr) (K : KSt → R) : R :=
  @KK.casesOn (fun _ => Xt → KT → KH → Pos → KG → (KSt → R) → R) k kx_done kx_seq kx_block kx_loop kx_call kx_dcall x fr S nx G K
def kstep (G : KG) (T : KTab) (X : KPr) (s : KSt) (K : KSt → R) : R :=
  @KSt.rec (fun _ => KG → KTab → KPr → (KSt → R) → R) kcode kops kdops kexit (fun _ _ _ _ _ _ _ => none) s G T X K
def iter (G : KG) (T : KTab) (X : KPr) (n : Nat) : KSt → R :=
  Nat.rec (motive := fun _ => KSt → R) (fun s => some s) (fun _ ih s => kstep G T X s ih) n
end
end Sg
end Go.Proofs.YtfkboondffejaaaGreatDoor
set_option linter.unusedVariables false
set_option linter.unusedSimpArgs false
set_option linter.constructorNameAsVariable false
namespace Go.Proofs.YtfkboondffejaaaGreatDoor
namespace Sg
theorem packL_cons (b : UInt8) (l : List UInt8) : packL (b :: l) = b.toNat + 256 * packL l := rfl
theorem packL_inj : ∀ {l m : List UInt8}, l.length = m.length → packL l = packL m → l = m
  | [], [], _, _ => rfl
  | [], _ :: _, h, _ => by simp at h
  | _ :: _, [], h, _ => by simp at h
  | b :: l, c :: m, h, e => by
    rw [packL_cons, packL_cons] at e
    have hb := b.toNat_lt
    have hc := c.toNat_lt
    have e1 : b.toNat = c.toNat := by omega
    have e2 : packL l = packL m := by omega
    rw [UInt8.toNat_inj.1 e1, packL_inj (by simpa using h) e2]
theorem packL_drop : ∀ (l : List UInt8) (i : Nat), Nat.shiftRight (packL l) (Nat.mul 8 i) = packL (l.drop i) := by
  intro l i
  show packL l >>> (8 * i) = _
  induction i generalizing l with
  | zero => simp
  | succ i ih =>
    cases l with
    | nil => simp [packL]
    | cons b l =>
      rw [List.drop_succ_cons, ← ih l, packL_cons, show 8 * (i + 1) = 8 + 8 * i by omega, Nat.shiftRight_add]
      congr 1
      rw [Nat.shiftRight_eq_div_pow]
      have hb := b.toNat_lt
      omega
theorem packL_take : ∀ (l : List UInt8) (n : Nat), Nat.mod (packL l) (Nat.pow 2 (Nat.mul 8 n)) = packL (l.take n) := by
  intro l n
  show packL l % 2 ^ (8 * n) = _
  induction n generalizing l with
  | zero => simp [packL, Nat.mod_one]
  | succ n ih =>
    cases l with
    | nil => simp [packL]
    | cons b l =>
      rw [List.take_succ_cons, packL_cons, packL_cons, ← ih l, show 8 * (n + 1) = 8 * n + 8 by omega, Nat.pow_add]
      have hb := b.toNat_lt
      have hp : 0 < 2 ^ (8 * n) := Nat.two_pow_pos _
      rw [show (2 : Nat) ^ 8 = 256 by decide]
      generalize 2 ^ (8 * n) = p at *
      generalize packL l = q
      have h1 := Nat.div_add_mod q p
      have h2 := Nat.mod_lt q hp
      have : b.toNat + 256 * q = (b.toNat + 256 * (q % p)) + p * 256 * (q / p) := by
        have : p * 256 * (q / p) = 256 * (p * (q / p)) := by rw [Nat.mul_comm p 256, Nat.mul_assoc]
        omega
      rw [this, Nat.add_mul_mod_self_left]
      exact Nat.mod_eq_of_lt (by omega)
theorem packL_sub (l : List UInt8) (i n : Nat) : psub (packL l) i n = packL (sub l i n) := by
  unfold psub sub
  rw [packL_drop, packL_take]
theorem packL_get {l : List UInt8} {i : Nat} (h : i < l.length) : pget (packL l) i = (l.getD i 0).toNat := by
  unfold pget
  rw [packL_drop, List.drop_eq_getElem_cons h, packL_cons]
  show (_ + 256 * _) % 256 = _
  have hb := (l[i]).toNat_lt
  rw [Nat.add_mul_mod_self_left, Nat.mod_eq_of_lt hb]
  simp [List.getD_eq_getElem?_getD, h]
theorem packL_app (l m : List UInt8) : papp l.length (packL l) (packL m) = packL (l ++ m) := by
  unfold papp
  show packL l + packL m <<< (8 * l.length) = _
  induction l with
  | nil => simp [packL]
  | cons b l ih =>
    rw [List.cons_append, packL_cons, packL_cons, ← ih, List.length_cons, Nat.shiftLeft_eq, Nat.shiftLeft_eq, show 8 * (l.length + 1) = 8 * l.length + 8 by omega, Nat.pow_add]
    rw [show (2 : Nat) ^ 8 = 256 by decide, Nat.mul_add, ← Nat.mul_assoc (packL m), Nat.mul_comm _ 256]
    omega
theorem packL_app' {l m : List UInt8} {n : Nat} (h : l.length = n) : Nat.add (packL l) (Nat.shiftLeft (packL m) (Nat.mul 8 n)) = packL (l ++ m) := by subst h; exact packL_app l m
theorem packL_set {l : List UInt8} {i : Nat} {b : UInt8} (h : i < l.length) : pset (packL l) i b.toNat = packL (l.set i b) := by
  unfold pset
  rw [packL_take, packL_drop]
  show Nat.add (packL (l.take i)) (Nat.shiftLeft (packL (b :: l.drop (i + 1))) (Nat.mul 8 i)) = _
  rw [packL_app' (by simp; omega), List.set_eq_take_append_cons_drop, if_pos h]
theorem packL_put {l src : List UInt8} {off k : Nat} (h : off + k ≤ l.length) (hk : k ≤ src.length) : pput (packL l) off k (packL src) = packL (splice1 l off (src.take k)) := by
  unfold pput splice1
  rw [packL_take, packL_take, packL_drop, packL_app' (by simp; omega), packL_app' (by simp; omega)]
  simp [Nat.min_eq_left hk]
theorem packL_zero (n : Nat) : packL (List.replicate n 0) = 0 := by
  induction n with
  | zero => rfl
  | succ n ih => rw [List.replicate_succ, packL_cons, ih]; rfl
theorem packL_cmp : ∀ (l m : List UInt8), kcmp l.length m.length (packL l) (packL m) = cmpL l m
  | [], [] => rfl
  | [], b :: m => rfl
  | a :: l, [] => rfl
  | a :: l, b :: m => by
    have ih := packL_cmp l m
    have ha := a.toNat_lt
    have hb := b.toNat_lt
    simp only [List.length_cons, kcmp, cmpL, packL_cons]
    have e1 : Nat.mod (a.toNat + 256 * packL l) 256 = a.toNat := by show (a.toNat + 256 * packL l) % 256 = _; omega
    have e2 : Nat.mod (b.toNat + 256 * packL m) 256 = b.toNat := by show (b.toNat + 256 * packL m) % 256 = _; omega
    have e3 : Nat.div (a.toNat + 256 * packL l) 256 = packL l := by show (a.toNat + 256 * packL l) / 256 = _; omega
    have e4 : Nat.div (b.toNat + 256 * packL m) 256 = packL m := by show (b.toNat + 256 * packL m) / 256 = _; omega
    rw [e1, e2, e3, e4, ih]
    by_cases h : a = b
    · subst h; simp
    · have h' : a.toNat ≠ b.toNat := fun e => h (UInt8.toNat_inj.1 e)
      rw [if_neg h, beq_false h', cond_false]
      by_cases hlt : a.toNat < b.toNat
      · rw [if_pos hlt, blt_of hlt]; rfl
      · rw [if_neg hlt]
        have : Nat.blt a.toNat b.toNat = false := by
          cases hb : Nat.blt a.toNat b.toNat
          · rfl
          · exact absurd (of_blt hb) hlt
        rw [this]; rfl
def Pos.val : Pos → Nat
  | .h => 1
  | .o p => 2 * p.val
  | .i p => 2 * p.val + 1
theorem Pos.pos : ∀ p : Pos, 0 < p.val
  | .h => by decide
  | .o p => by have := Pos.pos p; simp only [Pos.val]; omega
  | .i p => by simp only [Pos.val]; omega
theorem Pos.inj : ∀ {p q : Pos}, p.val = q.val → p = q
  | .h, .h, _ => rfl
  | .o p, .o q, hh => by rw [Pos.inj (p := p) (q := q) (by simp only [Pos.val] at hh; omega)]
  | .i p, .i q, hh => by rw [Pos.inj (p := p) (q := q) (by simp only [Pos.val] at hh; omega)]
  | .h, .o q, hh => by have := Pos.pos q; simp only [Pos.val] at hh; omega
  | .h, .i q, hh => by have := Pos.pos q; simp only [Pos.val] at hh; omega
  | .o q, .h, hh => by have := Pos.pos q; simp only [Pos.val] at hh; omega
  | .i q, .h, hh => by have := Pos.pos q; simp only [Pos.val] at hh; omega
  | .o p, .i q, hh => by simp only [Pos.val] at hh; omega
  | .i p, .o q, hh => by simp only [Pos.val] at hh; omega
theorem Pos.eq_of_eqb : ∀ {p q : Pos}, Pos.eqb p q = true → p = q
  | .h, .h, _ => rfl
  | .o p, .o q, hh => by rw [Pos.eq_of_eqb (p := p) (q := q) hh]
  | .i p, .i q, hh => by rw [Pos.eq_of_eqb (p := p) (q := q) hh]
  | .h, .o _, hh => nomatch hh
  | .h, .i _, hh => nomatch hh
  | .o _, .h, hh => nomatch hh
  | .i _, .h, hh => nomatch hh
  | .o _, .i _, hh => nomatch hh
  | .i _, .o _, hh => nomatch hh
def Pos.succ : Pos → Pos
  | .h => .o .h
  | .o p => .i p
  | .i p => .o (Pos.succ p)
theorem Pos.succR_eq : ∀ (p : Pos) (K : Pos → R), Pos.succR p K = K p.succ
  | .h, K => rfl
  | .o p, K => rfl
  | .i p, K => Pos.succR_eq p _
theorem Pos.val_succ : ∀ p : Pos, p.succ.val = p.val + 1
  | .h => rfl
  | .o p => rfl
  | .i p => by simp only [Pos.succ, Pos.val, Pos.val_succ p]; omega
def KH.get : KH → Pos → Option KObj
  | .nil, _ => none
  | .nd _ v _, .h => v
  | .nd l _ _, .o p => KH.get l p
  | .nd _ _ r, .i p => KH.get r p
theorem KH.getR_some : ∀ {S : KH} {n : Pos} {K : KObj → R} {t : KSt}, KH.getR S n K = some t → ∃ o, S.get n = some o ∧ K o = some t
  | .nil, n, K, t, h => by cases n <;> cases h
  | .nd l none r, .h, K, t, h => nomatch h
  | .nd l (some v) r, .h, K, t, h => ⟨_, rfl, h⟩
  | .nd l v r, .o p, K, t, h => by cases v <;> exact KH.getR_some (S := l) h
  | .nd l v r, .i p, K, t, h => by cases v <;> exact KH.getR_some (S := r) h
def KH.set : Pos → KH → KObj → KH
  | .h, .nil, x => .nd .nil (some x) .nil
  | .h, .nd l _ r, x => .nd l (some x) r
  | .o p, .nil, x => .nd (KH.set p .nil x) none .nil
  | .o p, .nd l v r, x => .nd (KH.set p l x) v r
  | .i p, .nil, x => .nd .nil none (KH.set p .nil x)
  | .i p, .nd l v r, x => .nd l v (KH.set p r x)
theorem KH.setR_eq : ∀ (p : Pos) (S : KH) (x : KObj) (K : KH → R), KH.setR p S x K = K (KH.set p S x)
  | .h, .nil, x, K => rfl
  | .h, .nd l v r, x, K => rfl
  | .o p, .nil, x, K => KH.setR_eq p .nil x _
  | .o p, .nd l v r, x, K => KH.setR_eq p l x _
  | .i p, .nil, x, K => KH.setR_eq p .nil x _
  | .i p, .nd l v r, x, K => KH.setR_eq p r x _
theorem KH.get_nil (p : Pos) : KH.get .nil p = none := by cases p <;> rfl
theorem KH.get_set_self : ∀ (p : Pos) (S : KH) (x : KObj), (KH.set p S x).get p = some x
  | .h, .nil, x => rfl
  | .h, .nd l v r, x => rfl
  | .o p, .nil, x => KH.get_set_self p .nil x
  | .o p, .nd l v r, x => KH.get_set_self p l x
  | .i p, .nil, x => KH.get_set_self p .nil x
  | .i p, .nd l v r, x => KH.get_set_self p r x
theorem KH.get_set_ne : ∀ (p q : Pos) (S : KH) (x : KObj), q ≠ p → (KH.set p S x).get q = S.get q
  | .h, .h, S, x, h => absurd rfl h
  | .h, .o q, .nil, x, h => KH.get_nil q
  | .h, .i q, .nil, x, h => KH.get_nil q
  | .h, .o q, .nd l v r, x, h => rfl
  | .h, .i q, .nd l v r, x, h => rfl
  | .o p, .h, .nil, x, h => rfl
  | .o p, .h, .nd l v r, x, h => rfl
  | .o p, .i q, .nil, x, h => KH.get_nil q
  | .o p, .i q, .nd l v r, x, h => rfl
  | .o p, .o q, .nil, x, h => (KH.get_set_ne p q .nil x (fun e => h (by rw [e]))).trans (KH.get_nil q)
  | .o p, .o q, .nd l v r, x, h => KH.get_set_ne p q l x (fun e => h (by rw [e]))
  | .i p, .h, .nil, x, h => rfl
  | .i p, .h, .nd l v r, x, h => rfl
  | .i p, .o q, .nil, x, h => KH.get_nil q
  | .i p, .o q, .nd l v r, x, h => rfl
  | .i p, .i q, .nil, x, h => (KH.get_set_ne p q .nil x (fun e => h (by rw [e]))).trans (KH.get_nil q)
  | .i p, .i q, .nd l v r, x, h => KH.get_set_ne p q r x (fun e => h (by rw [e]))
def KH.del : Pos → KH → KH
  | _, .nil => .nil
  | .h, .nd l _ r => .nd l none r
  | .o p, .nd l v r => .nd (KH.del p l) v r
  | .i p, .nd l v r => .nd l v (KH.del p r)
theorem KH.delR_eq : ∀ (p : Pos) (S : KH) (K : KH → R), KH.delR p S K = K (KH.del p S)
  | .h, .nil, K => rfl
  | .o p, .nil, K => rfl
  | .i p, .nil, K => rfl
  | .h, .nd l v r, K => rfl
  | .o p, .nd l v r, K => KH.delR_eq p l _
  | .i p, .nd l v r, K => KH.delR_eq p r _
theorem KH.get_del : ∀ (p q : Pos) (S : KH) (o : KObj), (KH.del p S).get q = some o → q ≠ p ∧ S.get q = some o
  | p, q, .nil, o, h => by
    have : KH.del p .nil = .nil := by cases p <;> rfl
    rw [this, KH.get_nil] at h; cases h
  | .h, .h, .nd l v r, o, h => by simp [KH.del, KH.get] at h
  | .h, .o q, .nd l v r, o, h => ⟨by simp, h⟩
  | .h, .i q, .nd l v r, o, h => ⟨by simp, h⟩
  | .o p, .h, .nd l v r, o, h => ⟨by simp, h⟩
  | .o p, .o q, .nd l v r, o, h => by
    obtain ⟨a, b⟩ := KH.get_del p q l o h
    exact ⟨by simpa using a, b⟩
  | .o p, .i q, .nd l v r, o, h => ⟨by simp, h⟩
  | .i p, .h, .nd l v r, o, h => ⟨by simp, h⟩
  | .i p, .o q, .nd l v r, o, h => ⟨by simp, h⟩
  | .i p, .i q, .nd l v r, o, h => by
    obtain ⟨a, b⟩ := KH.get_del p q r o h
    exact ⟨by simpa using a, b⟩
def KT.get : KT → Pth → Option KV
  | .lf v, .e => some v
  | .nd l _, .o p => KT.get l p
  | .nd _ r, .i p => KT.get r p
  | _, _ => none
def KT.set : KT → Pth → KV → KT
  | .lf _, .e, v => .lf v
  | .nd l r, .o p, v => .nd (KT.set l p v) r
  | .nd l r, .i p, v => .nd l (KT.set r p v)
  | t, _, _ => t
theorem KT.getR_some : ∀ {fr : KT} {p : Pth} {K : KV → R} {t : KSt}, KT.getR fr p K = some t → ∃ v, fr.get p = some v ∧ K v = some t
  | .nil, p, K, t, h => by cases p <;> cases h
  | .lf v, p, K, t, h => by cases p <;> first | exact ⟨_, rfl, h⟩ | cases h
  | .nd l r, .e, K, t, h => by cases h
  | .nd l r, .o p, K, t, h => KT.getR_some (fr := l) h
  | .nd l r, .i p, K, t, h => KT.getR_some (fr := r) h
theorem KT.setR_some : ∀ {fr : KT} {p : Pth} {v : KV} {K : KT → R} {t : KSt}, KT.setR fr p v K = some t → (∃ u, fr.get p = some u) ∧ K (fr.set p v) = some t
  | .nil, p, v, K, t, h => by cases p <;> cases h
  | .lf u, p, v, K, t, h => by cases p <;> first | exact ⟨⟨_, rfl⟩, h⟩ | cases h
  | .nd l r, .e, v, K, t, h => by cases h
  | .nd l r, .o p, v, K, t, h => KT.setR_some (fr := l) h
  | .nd l r, .i p, v, K, t, h => KT.setR_some (fr := r) h
theorem KT.get_set_self : ∀ {t : KT} {p : Pth} {x v : KV}, t.get p = some x → (t.set p v).get p = some v
  | .nil, p, x, v, h => by cases p <;> simp [KT.get] at h
  | .lf _, p, x, v, h => by cases p <;> simp [KT.get] at h; rfl
  | .nd l r, p, x, v, h => by
    cases p <;> simp only [KT.get, reduceCtorEq] at h
    · exact KT.get_set_self (t := l) h
    · exact KT.get_set_self (t := r) h
theorem KT.get_set_ne : ∀ {t : KT} {p q : Pth} {x v : KV}, t.get p = some x → p ≠ q → (t.set p v).get q = t.get q
  | .nil, p, q, x, v, h, n => by cases p <;> simp [KT.get] at h
  | .lf _, p, q, x, v, h, n => by cases p <;> simp [KT.get] at h; cases q <;> simp [KT.get, KT.set] at n ⊢
  | .nd l r, p, q, x, v, h, n => by
    cases p <;> simp only [KT.get, reduceCtorEq] at h <;> cases q <;> simp only [KT.get, KT.set]
    · exact KT.get_set_ne h (by intro e; exact n (by rw [e]))
    · exact KT.get_set_ne h (by intro e; exact n (by rw [e]))
end Sg
end Go.Proofs.YtfkboondffejaaaGreatDoor
set_option linter.unusedVariables false
set_option linter.unusedSimpArgs false
set_option linter.constructorNameAsVariable false
namespace Go.Proofs.YtfkboondffejaaaGreatDoor
namespace Sg
mutual
inductive KI : KV → IV → Prop
  | int (k : IntKind) (n : Int) : KI (.int k n) (.int k n)
  | byte (b : UInt8) (n : Nat) (h : b.toNat = n) : KI (.byte n) (.byte b)
  | bool (b : Bool) : KI (.bool b) (.bool b)
  | str (l : List UInt8) (n m : Nat) (hn : l.length = n) (hm : packL l = m) : KI (.str n m) (.str l)
  | nilptr : KI .nilptr .nilptr
  | nilsl : KI .nilsl .nilsl
  | nilmap : KI .nilmap .nilmap
  | nilfn : KI .nilfn .nilfn
  | nilif : KI .nilif .nilif
  | ip (cs : List KV) (cs' : List IV) (h : KIs cs cs') : KI (.ip cs) (.ip cs')
  | sbs (l : List UInt8) (n m : Nat) (hn : l.length = n) (hm : packL l = m) : KI (.sbs n m) (.sbs n l)
  | sis (k : IntKind) (n : Nat) (l : List Int) (hn : l.length = n) : KI (.sis k n l) (.sis k n l)
inductive KIs : List KV → List IV → Prop
  | nil : KIs [] []
  | cons (x : KV) (y : IV) (xs : List KV) (ys : List IV) (h : KI x y) (hs : KIs xs ys) : KIs (x :: xs) (y :: ys)
end
mutual
inductive VR : KV → SV → Prop
  | iv (x : KV) (y : IV) (h : KI x y) : VR x (.iv y)
  | ptr (n : Pos) (off : Nat) : VR (.ptr n off) (.ptr n.val off)
  | ixp (n : Pos) (off sz i : Nat) : VR (.ixp n off sz i) (.ixp n.val off sz i)
  | sl (sz : Nat) (n : Pos) (off len : Nat) : VR (.sl sz n off len) (.sl sz n.val off len)
  | slx (sz : Nat) (n : Pos) (off len cap : Nat) : VR (.slx sz n off len cap) (.slx sz n.val off len cap)
  | map (n : Pos) : VR (.map n) (.map n.val)
  | agg (cs : List KV) (cs' : List SV) (h : VRs cs cs') : VR (.agg cs) (.agg cs')
  | tup (cs : List KV) (cs' : List SV) (h : VRs cs cs') : VR (.tup cs) (.tup cs')
  | fn (f : Nat) : VR (.fn f) (.fn f [])
inductive VRs : List KV → List SV → Prop
  | nil : VRs [] []
  | cons (x : KV) (y : SV) (xs : List KV) (ys : List SV) (h : VR x y) (hs : VRs xs ys) : VRs (x :: xs) (y :: ys)
end
theorem KIs.up : ∀ {cs : List KV} {cs' : List IV}, KIs cs cs' → VRs cs (cs'.map SV.iv)
  | _, _, .nil => .nil
  | _, _, .cons x y xs ys h hs => .cons _ _ _ _ (.iv _ _ h) hs.up
theorem VRs.app : ∀ {a b : List KV} {a' b' : List SV}, VRs a a' → VRs b b' → VRs (a ++ b) (a' ++ b')
  | _, _, _, _, .nil, h => h
  | _, _, _, _, .cons _ _ _ _ h hs, h2 => .cons _ _ _ _ h (hs.app h2)
def Sim {α β : Type} (T : (α → R) → R) (T' : (β → Prop) → Prop) (r : α → β → Prop) : Prop := ∀ (K : α → R) (t : KSt), T K = some t → ∃ v v', K v = some t ∧ r v v' ∧ ∀ K' : β → Prop, K' v' → T' K'
section
variable {α β γ δ : Type}
theorem Sim.pure {r : α → β → Prop} {v : α} {v' : β} (h : r v v') : Sim (fun K => K v) (fun K => K v') r := fun K t hk => ⟨v, v', hk, h, fun _ h => h⟩
theorem Sim.none {T' : (β → Prop) → Prop} {r : α → β → Prop} : Sim (fun _ => Option.none) T' r := fun K t h => nomatch h
theorem Sim.bind {T : (α → R) → R} {T' : (β → Prop) → Prop} {r : α → β → Prop} {U : α → (γ → R) → R} {U' : β → (δ → Prop) → Prop} {r2 : γ → δ → Prop} (h : Sim T T' r) (k : ∀ v v', r v v' → Sim (U v) (U' v') r2) :
    Sim (fun K => T fun v => U v K) (fun K => T' fun v => U' v K) r2 := by
  intro K t hk
  obtain ⟨v, v', h1, h2, h3⟩ := h _ t hk
  obtain ⟨u, u', h4, h5, h6⟩ := k v v' h2 K t h1
  exact ⟨u, u', h4, h5, fun K' hk' => h3 _ (h6 K' hk')⟩
theorem gd_some {b : Bool} {x : R} {t : KSt} (h : gd b x = some t) : b = true ∧ x = some t := by
  unfold gd at h
  cases b
  · cases h
  · exact ⟨rfl, h⟩
theorem forR_eq (n : Nat) (K : Nat → R) : forR n K = K n := by cases n <;> rfl
theorem Sim.gd {T : (α → R) → R} {T' : (β → Prop) → Prop} {r : α → β → Prop} {b : Bool} (h : b = true → Sim T T' r) : Sim (fun K => Sg.gd b (T K)) T' r := fun K t hk => by
  obtain ⟨h1, h2⟩ := gd_some hk
  exact h h1 K t h2
theorem Sim.vc {T : (α → R) → R} {T' : (β → Prop) → Prop} {r : α → β → Prop} {A : Prop} [Decidable A] (ha : A) (h : Sim T T' r) : Sim T (fun K => Sg.vc A (T' K)) r := fun K t hk => by
  obtain ⟨v, v', h1, h2, h3⟩ := h K t hk
  exact ⟨v, v', h1, h2, fun K' hk' => vc_iff.2 ⟨ha, h3 K' hk'⟩⟩
theorem Sim.forR {T : Nat → (α → R) → R} {T' : (β → Prop) → Prop} {r : α → β → Prop} {n : Nat} (h : Sim (T n) T' r) : Sim (fun K => Sg.forR n fun m => T m K) T' r := fun K t hk => by
  replace hk : Sg.forR n (fun m => T m K) = some t := hk
  rw [forR_eq] at hk
  exact h K t hk
theorem Sim.cond {T U : (α → R) → R} {T' U' : (β → Prop) → Prop} {r : α → β → Prop} {b : Bool} (h : b = true → Sim T T' r) (k : b = false → Sim U U' r) : Sim (fun K => bif b then T K else U K) (fun K => _root_.cond b (T' K) (U' K)) r := by
  cases b
  · exact k rfl
  · exact h rfl
theorem Sim.to {T : (α → R) → R} {T' T2 : (β → Prop) → Prop} {r : α → β → Prop} (h : Sim T T' r) (k : ∀ K, T' K → T2 K) : Sim T T2 r := fun K t hk => by
  obtain ⟨v, v', h1, h2, h3⟩ := h K t hk
  exact ⟨v, v', h1, h2, fun K' hk' => k _ (h3 K' hk')⟩
end
theorem eqIK_eq {k k' : IntKind} (h : eqIK k k' = true) : k = k' := by
  cases k <;> cases k' <;> first | rfl | exact nomatch h
theorem eqZ_iff {a b : Int} : eqZ a b = decide (a = b) := by
  rw [Bool.eq_iff_iff, decide_eq_true_iff]
  cases a <;> cases b
  · show Nat.beq _ _ = true ↔ _
    rw [Nat.beq_eq]; exact ⟨fun e => by rw [e], fun e => by cases e; rfl⟩
  · exact ⟨(fun e => nomatch e), (fun e => nomatch e)⟩
  · exact ⟨(fun e => nomatch e), (fun e => nomatch e)⟩
  · show Nat.beq _ _ = true ↔ _
    rw [Nat.beq_eq]; exact ⟨fun e => by rw [e], fun e => by cases e; rfl⟩
theorem ltZ_iff {a b : Int} : ltZ a b = decide (a < b) := by
  rw [Bool.eq_iff_iff, decide_eq_true_iff]
  cases a <;> cases b
  · show Nat.blt _ _ = true ↔ _
    rw [Nat.blt_eq]; simp
  · rename_i a b
    have h1 := Int.negSucc_lt_zero b
    have h2 : (0 : Int) ≤ Int.ofNat a := Int.natCast_nonneg a
    exact ⟨(fun e => nomatch e), fun h => absurd h (by omega)⟩
  · rename_i a b
    have h1 := Int.negSucc_lt_zero a
    have h2 : (0 : Int) ≤ Int.ofNat b := Int.natCast_nonneg b
    exact ⟨fun _ => by omega, fun _ => rfl⟩
  · show Nat.blt _ _ = true ↔ _
    rw [Nat.blt_eq]; omega
section
variable {n m off i : Nat} {kd : IntKind} {l : List Int} {xs : List KV} {v : KV} {k : KV → R} {q : List KV → R}
theorem kcell_sbs : kcell (.sbs n m :: xs) off k = bif Nat.blt off n then forR (pget m off) fun b => k (.byte b) else kcell xs (Nat.sub off n) k := rfl
theorem kcell_sis : kcell (.sis kd n l :: xs) off k = bif Nat.blt off n then kgetI l off fun x => k (.int kd x) else kcell xs (Nat.sub off n) k := rfl
theorem ktake_sbs : ktake (.sbs m i :: xs) (n + 1) q = gd (Nat.blt 0 m) (bif Nat.ble m (n + 1) then ktake xs (Nat.sub (n + 1) m) fun r => q (.sbs m i :: r) else forR (psub i 0 (n + 1)) fun l => q [.sbs (n + 1) l]) := rfl
theorem ktake_sis : ktake (.sis kd m l :: xs) (n + 1) q = gd (Nat.blt 0 m) (bif Nat.ble m (n + 1) then ktake xs (Nat.sub (n + 1) m) fun r => q (.sis kd m l :: r) else q [.sis kd (n + 1) (l.take (n + 1))]) := rfl
theorem kdrop_sbs : kdrop (.sbs m i :: xs) (n + 1) q = bif Nat.ble m (n + 1) then kdrop xs (Nat.sub (n + 1) m) q else forR (Nat.shiftRight i (Nat.mul 8 (n + 1))) fun l => q (.sbs (Nat.sub m (n + 1)) l :: xs) := rfl
theorem kdrop_sis : kdrop (.sis kd m l :: xs) (n + 1) q = bif Nat.ble m (n + 1) then kdrop xs (Nat.sub (n + 1) m) q else q (.sis kd (Nat.sub m (n + 1)) (l.drop (n + 1)) :: xs) := rfl
theorem kset_sbs : kset (.sbs n m :: xs) off v q = bif Nat.blt off n then (match v with | .byte b => forR (pset m off b) fun l => q (.sbs n l :: xs) | _ => none) else kset xs (Nat.sub off n) v fun r => q (.sbs n m :: r) := rfl
theorem kset_sis : kset (.sis kd n l :: xs) off v q = bif Nat.blt off n then (match v with | .int kd' b => gd (eqIK kd kd') (ksetI l off b fun l => q (.sis kd n l :: xs)) | _ => none) else kset xs (Nat.sub off n) v fun r => q (.sis kd n l :: r) := rfl
end
theorem kcell_sim : ∀ {cs : List KV} {cs' : List SV} {off : Nat}, VRs cs cs' → Sim (kcell cs off) (cellK cs' off) VR
  | _, _, off, .nil => by cases off <;> exact Sim.none
  | _, _, off, .cons x y xs ys h hs => by
    have ih := fun o => kcell_sim (off := o) hs
    cases h with
    | iv _ y h =>
      cases h with
      | sbs l n m hn hm =>
        intro K t hk
        simp only [kcell_sbs, kcell_sis, cellK] at hk ⊢
        cases hb : Nat.blt off n
        · rw [hb] at hk; exact ih _ K t hk
        · rw [hb] at hk
          simp only [cond_true, forR_eq] at hk ⊢
          subst hm
          rw [packL_get (by rw [hn]; exact of_blt hb)] at hk
          exact ⟨_, _, hk, .iv _ _ (.byte _ _ rfl), fun _ h => h⟩
      | sis k n l hn =>
        intro K t hk
        simp only [kcell_sbs, kcell_sis, cellK] at hk ⊢
        cases hb : Nat.blt off n
        · rw [hb] at hk; exact ih _ K t hk
        · rw [hb] at hk
          simp only [cond_true] at hk ⊢
          have key : ∀ (l : List Int) (i : Nat) (K : Int → R), kgetI l i K = some t → K (l.getD i 0) = some t := by
            intro l
            induction l with
            | nil => intro i K h; cases i <;> cases h
            | cons z l ih => intro i K h; cases i with
              | zero => exact h
              | succ i => simpa using ih i K h
          exact ⟨_, _, key _ _ _ hk, .iv _ _ (.int _ _), fun _ h => h⟩
      | int | byte | bool | str | nilptr | nilsl | nilmap | nilfn | nilif | ip => cases off with
        | zero => exact Sim.pure (.iv _ _ (by constructor <;> assumption))
        | succ n => exact ih n
    | ptr | ixp | sl | slx | map | agg | tup | fn => cases off with
      | zero => exact Sim.pure (by constructor <;> assumption)
      | succ n => exact ih n
theorem ble_pos {m : Nat} (h : 0 < m) : Nat.ble m 0 = false := by
  cases m with
  | zero => omega
  | succ n => rfl
theorem ktake_sim : ∀ {cs : List KV} {cs' : List SV} {n : Nat}, VRs cs cs' → Sim (ktake cs n) (takeK cs' 0 n) VRs
  | cs, cs', 0, h => by
    intro K t hk
    have hk' : K [] = some t := by cases cs <;> exact hk
    refine ⟨_, _, hk', .nil, fun K' hK => ?_⟩
    cases cs' <;> simpa [takeK] using hK
  | _, _, n + 1, .nil => Sim.none
  | _, _, n + 1, .cons x y xs ys h hs => by
    have ih := fun m => ktake_sim (n := m) hs
    have one : ∀ {x : KV} {y : SV}, VR x y → Sim (fun K => ktake xs n fun r => K (x :: r)) (fun K => takeK ys 0 n fun r => K (y :: r)) VRs := fun h => (ih n).bind fun v v' hv => Sim.pure (.cons _ _ _ _ h hv)
    cases h with
    | iv _ y h =>
      cases h with
      | sbs l m p hn hm =>
        intro K t hk
        simp only [ktake_sbs, ktake_sis, takeK] at hk ⊢
        obtain ⟨hpos, hk⟩ := gd_some hk
        rw [ble_pos (of_blt hpos)]
        simp only [cond_false, Nat.sub_zero, List.drop_zero]
        cases hb : Nat.ble m (n + 1)
        · rw [hb] at hk
          simp only [cond_false, forR_eq] at hk ⊢
          have hlt := ble_false hb
          subst hm
          rw [packL_sub] at hk
          exact ⟨_, _, hk, .cons _ _ _ _ (.iv _ _ (.sbs _ _ _ (by simp [sub]; omega) rfl)) .nil, fun _ h => h⟩
        · rw [hb] at hk
          obtain ⟨v, v', h1, h2, h3⟩ := ih _ _ t hk
          exact ⟨_, _, h1, .cons _ _ _ _ (.iv _ _ (.sbs l m p hn hm)) h2, fun K' h => h3 (fun r => K' (.iv (.sbs m l) :: r)) h⟩
      | sis k m l hn =>
        intro K t hk
        simp only [ktake_sbs, ktake_sis, takeK] at hk ⊢
        obtain ⟨hpos, hk⟩ := gd_some hk
        rw [ble_pos (of_blt hpos)]
        simp only [cond_false, Nat.sub_zero, List.drop_zero]
        cases hb : Nat.ble m (n + 1)
        · rw [hb] at hk
          simp only [cond_false] at hk ⊢
          have hlt := ble_false hb
          exact ⟨_, _, hk, .cons _ _ _ _ (.iv _ _ (by simpa [sub] using KI.sis k (n + 1) (l.take (n + 1)) (by simp; omega))) .nil, fun _ h => h⟩
        · rw [hb] at hk
          obtain ⟨v, v', h1, h2, h3⟩ := ih _ _ t hk
          exact ⟨_, _, h1, .cons _ _ _ _ (.iv _ _ (.sis k m l hn)) h2, fun K' h => h3 (fun r => K' (.iv (.sis k m l) :: r)) h⟩
      | int | byte | bool | str | nilptr | nilsl | nilmap | nilfn | nilif | ip => exact one (.iv _ _ (by constructor <;> assumption))
    | ptr | ixp | sl | slx | map | agg | tup | fn => exact one (by constructor <;> assumption)
theorem kdrop_sim : ∀ {cs : List KV} {cs' : List SV} {n : Nat}, VRs cs cs' → Sim (kdrop cs n) (dropK cs' n) VRs
  | cs, cs', 0, h => by
    intro K t hk
    have hk' : K cs = some t := by cases cs <;> exact hk
    refine ⟨_, _, hk', h, fun K' hK => ?_⟩
    cases cs' <;> simpa [dropK] using hK
  | _, _, n + 1, .nil => Sim.none
  | _, _, n + 1, .cons x y xs ys h hs => by
    have ih := fun m => kdrop_sim (n := m) hs
    cases h with
    | iv _ y h =>
      cases h with
      | sbs l m p hn hm =>
        intro K t hk
        simp only [kdrop_sbs, kdrop_sis, dropK] at hk ⊢
        cases hb : Nat.ble m (n + 1)
        · rw [hb] at hk
          simp only [cond_false, forR_eq] at hk ⊢
          have hlt := ble_false hb
          subst hm
          rw [packL_drop] at hk
          exact ⟨_, _, hk, .cons _ _ _ _ (.iv _ _ (.sbs _ _ _ (by simp; omega) rfl)) hs, fun _ h => h⟩
        · rw [hb] at hk
          exact ih _ K t hk
      | sis k m l hn =>
        intro K t hk
        simp only [kdrop_sbs, kdrop_sis, dropK] at hk ⊢
        cases hb : Nat.ble m (n + 1)
        · rw [hb] at hk
          simp only [cond_false] at hk ⊢
          have hlt := ble_false hb
          exact ⟨_, _, hk, .cons _ _ _ _ (.iv _ _ (.sis _ _ _ (by simp; omega))) hs, fun _ h => h⟩
        · rw [hb] at hk
          exact ih _ K t hk
      | int | byte | bool | str | nilptr | nilsl | nilmap | nilfn | nilif | ip => exact ih n
    | ptr | ixp | sl | slx | map | agg | tup | fn => exact ih n
theorem kdropI_sim : ∀ {cs : List KV} {cs' : List IV} {n : Nat}, KIs cs cs' → Sim (kdrop cs n) (dropIK cs' n) KIs
  | cs, cs', 0, h => by
    intro K t hk
    have hk' : K cs = some t := by cases cs <;> exact hk
    refine ⟨_, _, hk', h, fun K' hK => ?_⟩
    cases cs' <;> simpa [dropIK] using hK
  | _, _, n + 1, .nil => Sim.none
  | _, _, n + 1, .cons x y xs ys h hs => by
    have ih := fun m => kdropI_sim (n := m) hs
    cases h with
    | sbs l m p hn hm =>
      intro K t hk
      simp only [kdrop_sbs, kdrop_sis, dropIK] at hk ⊢
      cases hb : Nat.ble m (n + 1)
      · rw [hb] at hk
        simp only [cond_false, forR_eq] at hk ⊢
        have hlt := ble_false hb
        subst hm
        rw [packL_drop] at hk
        exact ⟨_, _, hk, .cons _ _ _ _ (.sbs _ _ _ (by simp; omega) rfl) hs, fun _ h => h⟩
      · rw [hb] at hk
        exact ih _ K t hk
    | sis k m l hn =>
      intro K t hk
      simp only [kdrop_sbs, kdrop_sis, dropIK] at hk ⊢
      cases hb : Nat.ble m (n + 1)
      · rw [hb] at hk
        simp only [cond_false] at hk ⊢
        have hlt := ble_false hb
        exact ⟨_, _, hk, .cons _ _ _ _ (.sis _ _ _ (by simp; omega)) hs, fun _ h => h⟩
      · rw [hb] at hk
        exact ih _ K t hk
    | int | byte | bool | str | nilptr | nilsl | nilmap | nilfn | nilif | ip => exact ih n
theorem take_drop : ∀ (cs : List SV) (off n : Nat) (K : List SV → Prop), (dropK cs off fun r => takeK r 0 n K) → takeK cs off n K
  | cs, off, 0, K, h => by
    have : K [] := by
      obtain ⟨r, h1, _⟩ := dropK_lin cs off _ h
      cases r <;> simpa [takeK] using h1
    cases cs <;> simpa [takeK] using this
  | cs, 0, n + 1, K, h => by cases cs <;> simpa [dropK] using h
  | [], off + 1, n + 1, K, h => by simp [dropK] at h
  | x :: xs, off + 1, n + 1, K, h => by
    have ih := take_drop xs
    cases x
    case iv y =>
      cases y
      case sbs m l =>
        simp only [dropK, takeK] at h ⊢
        cases hb : Nat.ble m (off + 1)
        · rw [hb] at h
          have hlt := ble_false hb
          simp only [cond_false, takeK] at h ⊢
          rw [ble_pos (by omega)] at h
          simp only [cond_false, Nat.sub_zero, List.drop_zero] at h
          cases hc : Nat.ble (m - (off + 1)) (n + 1)
          · rw [hc] at h
            simp only [cond_false] at h ⊢
            have e : sub (l.drop (off + 1)) 0 (n + 1) = sub l (off + 1) (n + 1) := by simp [sub]
            rw [e] at h
            exact h
          · rw [hc] at h
            exact h
        · rw [hb] at h
          exact ih _ _ _ h
      case sis kd m l =>
        simp only [dropK, takeK] at h ⊢
        cases hb : Nat.ble m (off + 1)
        · rw [hb] at h
          have hlt := ble_false hb
          simp only [cond_false, takeK] at h ⊢
          rw [ble_pos (by omega)] at h
          simp only [cond_false, Nat.sub_zero, List.drop_zero] at h
          cases hc : Nat.ble (m - (off + 1)) (n + 1)
          · rw [hc] at h
            simp only [cond_false] at h ⊢
            have e : sub (l.drop (off + 1)) 0 (n + 1) = sub l (off + 1) (n + 1) := by simp [sub]
            rw [e] at h
            exact h
          · rw [hc] at h
            exact h
        · rw [hb] at h
          exact ih _ _ _ h
      all_goals exact ih _ _ _ h
    all_goals exact ih _ _ _ h
theorem ksetI_some {t : KSt} : ∀ {l : List Int} {i : Nat} {b : Int} {K : List Int → R}, ksetI l i b K = some t → i < l.length ∧ K (l.set i b) = some t
  | [], i, b, K, h => by cases i <;> cases h
  | x :: l, 0, b, K, h => ⟨by simp, h⟩
  | x :: l, i + 1, b, K, h => by
    obtain ⟨h1, h2⟩ := ksetI_some (l := l) h
    exact ⟨by simpa using h1, h2⟩
theorem kgetI_some {t : KSt} : ∀ {l : List Int} {i : Nat} {K : Int → R}, kgetI l i K = some t → i < l.length ∧ K (l.getD i 0) = some t
  | [], i, K, h => by cases i <;> cases h
  | x :: l, 0, K, h => ⟨by simp, h⟩
  | x :: l, i + 1, K, h => by
    obtain ⟨h1, h2⟩ := kgetI_some (l := l) h
    exact ⟨by simpa using h1, by simpa using h2⟩
theorem kset_sim {v : KV} {v' : SV} (hv : VR v v') : ∀ {cs : List KV} {cs' : List SV} {off : Nat}, VRs cs cs' → Sim (kset cs off v) (setCellK cs' off v') VRs
  | _, _, off, .nil => by cases off <;> exact Sim.none
  | _, _, off, .cons x y xs ys h hs => by
    have ih := fun o => kset_sim hv (off := o) hs
    have zero : Sim (fun K => K (v :: xs)) (fun K => K (v' :: ys)) VRs := Sim.pure (.cons _ _ _ _ hv hs)
    have one : ∀ {x : KV} {y : SV} (n : Nat), VR x y → Sim (fun K => kset xs n v fun r => K (x :: r)) (fun K => setCellK ys n v' fun r => K (y :: r)) VRs := fun n h => (ih n).bind fun w w' hw => Sim.pure (.cons _ _ _ _ h hw)
    cases h with
    | iv _ y h =>
      cases h with
      | sbs l n m hn hm =>
        intro K t hk
        simp only [kset_sbs, kset_sis, setCellK] at hk ⊢
        cases hb : Nat.blt off n
        · rw [hb] at hk; exact one _ (.iv _ _ (.sbs l n m hn hm)) K t hk
        · rw [hb] at hk
          simp only [cond_true] at hk ⊢
          cases hv with
          | iv _ _ hv =>
            cases hv with
            | byte b bn hb2 =>
              simp only [forR_eq] at hk
              subst hm hb2
              rw [packL_set (by rw [hn]; exact of_blt hb)] at hk
              exact ⟨_, _, hk, .cons _ _ _ _ (.iv _ _ (.sbs _ _ _ (by simpa using hn) rfl)) hs, fun _ h => h⟩
            | int | bool | str | nilptr | nilsl | nilmap | nilfn | nilif | ip | sbs | sis => cases hk
          | ptr | ixp | sl | slx | map | agg | tup | fn => cases hk
      | sis k n l hn =>
        intro K t hk
        simp only [kset_sbs, kset_sis, setCellK] at hk ⊢
        cases hb : Nat.blt off n
        · rw [hb] at hk; exact one _ (.iv _ _ (.sis k n l hn)) K t hk
        · rw [hb] at hk
          simp only [cond_true] at hk ⊢
          cases hv with
          | iv _ _ hv =>
            cases hv with
            | int k' b =>
              obtain ⟨e, hk2⟩ := gd_some (show gd (eqIK k k') (ksetI l off b fun l => K (.sis k n l :: xs)) = some t from hk)
              obtain rfl := eqIK_eq e
              obtain ⟨_, hk3⟩ := ksetI_some hk2
              exact ⟨_, _, hk3, .cons _ _ _ _ (.iv _ _ (.sis _ _ _ (by simpa using hn))) hs, fun _ h => vc_iff.2 ⟨rfl, h⟩⟩
            | byte | bool | str | nilptr | nilsl | nilmap | nilfn | nilif | ip | sbs | sis => cases hk
          | ptr | ixp | sl | slx | map | agg | tup | fn => cases hk
      | int | byte | bool | str | nilptr | nilsl | nilmap | nilfn | nilif | ip => cases off with
        | zero => exact zero
        | succ n => exact one n (.iv _ _ (by constructor <;> assumption))
    | ptr | ixp | sl | slx | map | agg | tup | fn => cases off with
      | zero => exact zero
      | succ n => exact one n (by constructor <;> assumption)
theorem kapp_eq {α : Type} : ∀ (xs ys : List α) (K : List α → R), kapp xs ys K = K (xs ++ ys)
  | [], ys, K => rfl
  | x :: xs, ys, K => kapp_eq xs ys _
theorem kapp_sim {a b : List KV} {a' b' : List SV} (h : VRs a a') (h2 : VRs b b') : Sim (kapp a b) (appK a' b') VRs := fun K t hk => by
  rw [kapp_eq] at hk
  exact ⟨_, _, hk, h.app h2, fun K' h => appK_iff.2 h⟩
theorem ncells_sim : ∀ {cs : List KV} {cs' : List SV}, VRs cs cs' → kncells cs = ncells cs'
  | _, _, .nil => rfl
  | _, _, .cons x y xs ys h hs => by
    have ih := ncells_sim hs
    have e : Nat.succ (kncells xs) = 1 + ncells ys := by omega
    have e2 : ∀ n, Nat.add n (kncells xs) = n + ncells ys := fun n => by rw [ih]; rfl
    cases h with
    | iv _ y h =>
      cases h with
      | sbs => simp only [ncells]; exact e2 _
      | sis => simp only [ncells]; exact e2 _
      | int | byte | bool | str | nilptr | nilsl | nilmap | nilfn | nilif | ip => simp only [ncells]; exact e
    | ptr | ixp | sl | slx | map | agg | tup | fn => simp only [ncells]; exact e
theorem kput_sim {cs new : List KV} {cs' new' : List SV} {off : Nat} (h : VRs cs cs') (h2 : VRs new new') : Sim (kput cs off new) (putCellsK cs' off new') VRs := by
  have e := ncells_sim h2
  unfold kput putCellsK
  rw [e]
  exact (ktake_sim h).bind fun a a' ha => (kdrop_sim h).bind fun b b' hb => (kapp_sim h2 hb).bind fun r r' hr => kapp_sim ha hr
theorem kcst_some {x : SV} {K : KV → R} {t : KSt} (h : kcst x K = some t) : ∃ v, K v = some t ∧ VR v x := by
  cases x with
  | iv x =>
    cases x with
    | int k n => exact ⟨.int k n, h, .iv _ _ (.int _ _)⟩
    | byte b =>
      replace h : kcst_byte b K = some t := h
      simp only [kcst_byte, forR_eq] at h
      exact ⟨_, h, .iv _ _ (.byte _ _ rfl)⟩
    | bool b => exact ⟨.bool b, h, .iv _ _ (.bool _)⟩
    | str l =>
      replace h : kcst_str l K = some t := h
      simp only [kcst_str, forR_eq] at h
      exact ⟨_, h, .iv _ _ (.str _ _ _ rfl rfl)⟩
    | nilptr => exact ⟨.nilptr, h, .iv _ _ .nilptr⟩
    | nilsl => exact ⟨.nilsl, h, .iv _ _ .nilsl⟩
    | nilmap => exact ⟨.nilmap, h, .iv _ _ .nilmap⟩
    | nilfn => exact ⟨.nilfn, h, .iv _ _ .nilfn⟩
    | nilif => exact ⟨.nilif, h, .iv _ _ .nilif⟩
    | ib | isl | ip => cases h
    | sbs n l =>
      replace h : kcst_sbs n l K = some t := h
      obtain ⟨e, h⟩ := gd_some h
      simp only [forR_eq] at h
      exact ⟨_, h, .iv _ _ (.sbs _ _ _ (Nat.eq_of_beq_eq_true e) rfl)⟩
    | sis k n l =>
      replace h : kcst_sis k n l K = some t := h
      obtain ⟨e, h⟩ := gd_some h
      exact ⟨_, h, .iv _ _ (.sis _ _ _ (Nat.eq_of_beq_eq_true e))⟩
  | fn f cs =>
    replace h : kcst_fn f cs K = some t := h
    unfold kcst_fn at h
    split at h
    · exact ⟨_, h, .fn _⟩
    · cases h
  | ptr | ixp | sl | slx | map | agg | tup | iface | junk => cases h
theorem kcsts_some {t : KSt} : ∀ {xs : List SV} {K : List KV → R}, kcsts xs K = some t → ∃ vs, K vs = some t ∧ VRs vs xs
  | [], K, h => ⟨[], h, .nil⟩
  | x :: xs, K, h => by
    obtain ⟨v, h1, h2⟩ := kcst_some h
    obtain ⟨vs, h3, h4⟩ := kcsts_some h1
    exact ⟨_, h3, .cons _ _ _ _ h2 h4⟩
theorem kz_some {x : SV} {K : KV → R} {t : KSt} (h : kz x K = some t) : ∃ v, K v = some t ∧ VR v x := by
  unfold kz at h
  split at h
  · obtain ⟨vs, h1, h2⟩ := kcsts_some h
    exact ⟨_, h1, .agg _ _ h2⟩
  · exact kcst_some h
def FR (fr : KT) (fr' : FT) : Prop := ∀ p v, fr.get p = some v → ∃ v', fr'.get p = some v' ∧ VR v v'
def GR (G : KG) (G' : Gl) : Prop := ∀ n cs, G n = some cs → ∃ cs', G' n = some cs' ∧ KIs cs cs'
section
variable {G : KG} {G' : Gl} {fr : KT} {fr' : FT}
theorem kev_sim (hG : GR G G') (hF : FR fr fr') {x : Opd} : Sim (kev G fr x) (evK G' fr' x) VR := by
  cases x with
  | t p =>
    intro K t h
    obtain ⟨v, h1, h2⟩ := KT.getR_some (show KT.getR fr p K = some t from h)
    obtain ⟨v', h3, h4⟩ := hF p v h1
    exact ⟨v, v', h2, h4, fun K' h => FT.getK_iff.2 ⟨v', h3, h⟩⟩
  | k v =>
    intro K t h
    obtain ⟨u, h1, h2⟩ := kcst_some h
    exact ⟨u, v, h1, h2, fun K' h => h⟩
  | g n =>
    intro K t h
    replace h : kev_g n G fr K = some t := h
    simp only [kev_g, evK] at h ⊢
    cases hg : G n with
    | none => rw [hg] at h; cases h
    | some cs =>
      rw [hg] at h
      obtain ⟨cs', h1, h2⟩ := hG n cs hg
      rw [h1]
      exact ⟨_, _, h, .iv _ _ (.ip _ _ h2), fun K' h => h⟩
theorem kevs_sim (hG : GR G G') (hF : FR fr fr') : ∀ {xs : List Opd}, Sim (kevs G fr xs) (evsK G' fr' xs) VRs
  | [] => Sim.pure .nil
  | x :: xs => by
    have ih := kevs_sim hG hF (xs := xs)
    exact (kev_sim hG hF).bind fun v v' hv => ih.bind fun w w' hw => Sim.pure (.cons _ _ _ _ hv hw)
theorem kcells_sim {v : KV} {v' : SV} (h : VR v v') : Sim (kcells v) (cellsK v') VRs := by
  cases h with
  | iv _ y h =>
    cases h with
    | sbs | sis => exact Sim.none
    | int | byte | bool | str | nilptr | nilsl | nilmap | nilfn | nilif | ip => exact Sim.pure (.cons _ _ _ _ (.iv _ _ (by constructor <;> assumption)) .nil)
  | tup => exact Sim.none
  | agg cs cs' h => exact Sim.pure h
  | ptr | ixp | sl | slx | map | fn => exact Sim.pure (.cons _ _ _ _ (by constructor <;> assumption) .nil)
theorem ksingle_sim {v : KV} {v' : SV} (h : VR v v') : Sim (ksingle v) (singleK v') VR := by
  cases h with
  | iv _ y h =>
    cases h with
    | sbs | sis => exact Sim.none
    | int | byte | bool | str | nilptr | nilsl | nilmap | nilfn | nilif | ip => exact Sim.pure (.iv _ _ (by constructor <;> assumption))
  | tup | agg => exact Sim.none
  | ptr | ixp | sl | slx | map | fn => exact Sim.pure (by constructor <;> assumption)
theorem kpieces_sim (hG : GR G G') (hF : FR fr fr') : ∀ {ps : List Piece}, Sim (kpieces G fr ps) (piecesK G' fr' ps) VRs
  | [] => Sim.pure .nil
  | .op n x :: ps => by
    have ih := kpieces_sim hG hF (ps := ps)
    refine (kev_sim hG hF).bind fun v v' hv => (kcells_sim hv).bind fun cs cs' hcs => Sim.gd fun e => Sim.vc ?_ (ih.bind fun r r' hr => kapp_sim hcs hr)
    rw [← ncells_sim hcs]; exact Nat.eq_of_beq_eq_true e
  | .z cs :: ps => by
    have ih := kpieces_sim hG hF (ps := ps)
    intro K t h
    obtain ⟨vs, h1, h2⟩ := kcsts_some (show kcsts cs _ = some t from h)
    exact (ih.bind fun r r' hr => kapp_sim h2 hr) K t h1
inductive LR : List (List KV) → List (List SV) → Prop
  | nil : LR [] []
  | cons (x : List KV) (y : List SV) (xs : List (List KV)) (ys : List (List SV)) (h : VRs x y) (hs : LR xs ys) : LR (x :: xs) (y :: ys)
theorem kelems_sim (hG : GR G G') (hF : FR fr fr') {sz : Nat} : ∀ {xs : List Opd}, Sim (kelems G fr sz xs) (elemsK G' fr' sz xs) LR
  | [] => Sim.pure .nil
  | x :: xs => by
    have ih := kelems_sim hG hF (sz := sz) (xs := xs)
    refine (kev_sim hG hF).bind fun v v' hv => (kcells_sim hv).bind fun cs cs' hcs => Sim.gd fun e => Sim.vc ?_ (ih.bind fun r r' hr => Sim.pure (.cons _ _ _ _ hcs hr))
    rw [← ncells_sim hcs]; exact Nat.eq_of_beq_eq_true e
theorem kbytes_sim (hG : GR G G') (hF : FR fr fr') : ∀ {xs : List Opd}, Sim (kbytes G fr xs) (bytesK G' fr' xs) (fun n l => packL l = n ∧ l.length = xs.length)
  | [] => Sim.pure ⟨rfl, rfl⟩
  | x :: xs => by
    have ih := kbytes_sim hG hF (xs := xs)
    refine (kev_sim hG hF).bind (U := fun v K => match v with | .byte b => kbytes G fr xs fun r => forR (Nat.add b (Nat.mul 256 r)) K | _ => none) (U' := fun v K => match v with | .iv (.byte b) => bytesK G' fr' xs fun r => K (b :: r) | _ => False) fun v v' hv => ?_
    cases hv with
    | iv _ y h =>
      cases h with
      | byte b n hb =>
        refine ih.bind fun r r' hr => Sim.forR (T := fun m K => K m) (Sim.pure ⟨?_, by simpa using hr.2⟩)
        rw [packL_cons, hr.1, hb]; rfl
      | int | bool | str | nilptr | nilsl | nilmap | nilfn | nilif | ip | sbs | sis => exact Sim.none
    | ptr | ixp | sl | slx | map | agg | tup | fn => exact Sim.none
end
end Sg
end Go.Proofs.YtfkboondffejaaaGreatDoor
set_option linter.unusedVariables false
set_option linter.unusedSimpArgs false
set_option linter.constructorNameAsVariable false
namespace Go.Proofs.YtfkboondffejaaaGreatDoor
namespace Sg
theorem wr_uns {k : IntKind} (h : sgn k = false) (n : Int) : wr k n = n % (modN k : Int) := by
  cases k <;> first | exact absurd h (by decide) | (unfold wr; simp [IntKind.wrap, IntKind.bits, IntKind.signed, modN])
theorem modN_pos (k : IntKind) : 0 < modN k := by cases k <;> decide
theorem kint_some {k : IntKind} {n : Int} {K : KV → R} {t : KSt} (h : kint k n K = some t) : K (.int k (wr k n)) = some t ∧ (sgn k = true → minI k ≤ n ∧ n ≤ maxI k) := by
  unfold kint at h
  cases hs : sgn k
  · rw [hs] at h
    have hp := modN_pos k
    refine ⟨?_, fun e => nomatch e⟩
    rw [wr_uns hs]
    cases n with
    | ofNat m =>
      simp only [forR_eq] at h
      exact h
    | negSucc m =>
      simp only [forR_eq] at h
      have e : (Int.negSucc m) % (modN k : Int) = Int.ofNat (Nat.sub (Nat.sub (modN k) 1) (Nat.mod m (modN k))) := by
        show Int.negSucc m % (modN k : Int) = ((modN k - 1 - m % modN k : Nat) : Int)
        have h1 : m % modN k < modN k := Nat.mod_lt _ hp
        rw [Int.negSucc_emod _ (by omega)]
        omega
      rw [e]; exact h
  · rw [hs] at h
    have key : minI k ≤ n ∧ n ≤ maxI k → K (.int k n) = some t → K (.int k (wr k n)) = some t ∧ (true = true → minI k ≤ n ∧ n ≤ maxI k) := fun hr hk => by
      rw [show wr k n = n from wrap_in hr.1 hr.2]
      exact ⟨hk, fun _ => hr⟩
    cases n with
    | ofNat m =>
      simp only [forR_eq] at h
      obtain ⟨hb, h⟩ := gd_some h
      have hb := of_blt hb
      refine key ?_ h
      rw [Int.ofNat_eq_natCast]
      cases k <;> first | exact absurd hs (by decide) | (simp only [halfN] at hb; simp only [minI, maxI]; omega)
    | negSucc m =>
      simp only [forR_eq] at h
      obtain ⟨hb, h⟩ := gd_some h
      have hb := of_blt hb
      refine key ?_ h
      cases k <;> first | exact absurd hs (by decide) | (simp only [halfN] at hb; simp only [minI, maxI]; omega)
theorem kint_ar {k : IntKind} {n : Int} : Sim (kint k n) (arK k n) VR := fun K t h => by
  obtain ⟨h1, h2⟩ := kint_some h
  refine ⟨_, _, h1, .iv _ _ (.int _ _), fun K' hk => ?_⟩
  unfold arK
  cases hs : sgn k
  · exact hk
  · have h3 := h2 hs
    refine ⟨h3, ?_⟩
    have : wr k n = n := wrap_in h3.1 h3.2
    rw [this] at hk; exact hk
theorem kint_wr {k : IntKind} {n : Int} : Sim (kint k n) (fun K => K (.iv (.int k (wr k n)))) VR := fun K t h => ⟨_, _, (kint_some h).1, .iv _ _ (.int _ _), fun K' h => h⟩
theorem nbeq {a b : Nat} : Nat.beq a b = decide (a = b) := by rw [Bool.eq_iff_iff, decide_eq_true_iff, Nat.beq_eq]
theorem nblt {a b : Nat} : Nat.blt a b = decide (a < b) := by rw [Bool.eq_iff_iff, decide_eq_true_iff, Nat.blt_eq]
theorem nble {a b : Nat} : Nat.ble a b = decide (a ≤ b) := by rw [Bool.eq_iff_iff, decide_eq_true_iff, Nat.ble_eq]
theorem limN_max (k : IntKind) : (limN k : Int) = maxI k + 1 := by cases k <;> rfl
theorem limN_pow (k : IntKind) : ∃ m, limN k = 2 ^ m ∧ m ≤ k.bits := by
  cases k
  · exact ⟨7, by decide, by decide⟩
  · exact ⟨15, by decide, by decide⟩
  · exact ⟨31, by decide, by decide⟩
  · exact ⟨63, by decide, by decide⟩
  · exact ⟨8, by decide, by decide⟩
  · exact ⟨16, by decide, by decide⟩
  · exact ⟨32, by decide, by decide⟩
  · exact ⟨64, by decide, by decide⟩
theorem bit_nat {k : IntKind} {a : Nat} (h : a < limN k) : (BitVec.ofInt k.bits (a : Int)).toNat = a := by
  obtain ⟨m, hm, hb⟩ := limN_pow k
  rw [BitVec.ofInt_natCast, BitVec.toNat_ofNat]
  refine Nat.mod_eq_of_lt (Nat.lt_of_lt_of_le h ?_)
  rw [hm]; exact Nat.pow_le_pow_right (by decide) hb
theorem wr_lim {k : IntKind} {a : Nat} (h : a < limN k) : wr k (a : Int) = a := by
  refine wrap_in ?_ ?_
  · have : minI k ≤ 0 := by cases k <;> decide
    omega
  · have := limN_max k
    omega
theorem bit_lt {k : IntKind} {a b : Nat} (ha : a < limN k) (hb : b < limN k) : a &&& b < limN k ∧ a ||| b < limN k ∧ a ^^^ b < limN k := by
  obtain ⟨m, hm, _⟩ := limN_pow k
  rw [hm] at ha hb ⊢
  exact ⟨Nat.and_lt_two_pow _ hb, Nat.or_lt_two_pow ha hb, Nat.xor_lt_two_pow ha hb⟩
theorem kbinI_sim {op : BinOp} {k k' : IntKind} {a b : Int} : Sim (kbinI op k k' a b) (binK op (.iv (.int k a)) (.iv (.int k' b))) VR := by
  intro K t h
  cases op
  case add =>
    obtain ⟨e, g⟩ := gd_some h
    obtain rfl := eqIK_eq e
    exact (Sim.vc rfl kint_ar) K t g
  case sub =>
    obtain ⟨e, g⟩ := gd_some h
    obtain rfl := eqIK_eq e
    exact (Sim.vc rfl kint_ar) K t g
  case mul =>
    obtain ⟨e, g⟩ := gd_some h
    obtain rfl := eqIK_eq e
    exact (Sim.vc rfl kint_ar) K t g
  case eql =>
    obtain ⟨e, g⟩ := gd_some h
    obtain rfl := eqIK_eq e
    rw [eqZ_iff] at g
    exact (Sim.vc rfl (Sim.pure (.iv _ _ (.bool _)))) K t g
  case neq =>
    obtain ⟨e, g⟩ := gd_some h
    obtain rfl := eqIK_eq e
    rw [eqZ_iff] at g
    exact (Sim.vc rfl (Sim.pure (.iv _ _ (.bool _)))) K t g
  case lss =>
    obtain ⟨e, g⟩ := gd_some h
    obtain rfl := eqIK_eq e
    rw [ltZ_iff] at g
    exact (Sim.vc rfl (Sim.pure (.iv _ _ (.bool _)))) K t g
  case leq =>
    obtain ⟨e, g⟩ := gd_some h
    obtain rfl := eqIK_eq e
    rw [ltZ_iff, show (!decide (b < a)) = decide (a ≤ b) by rw [Bool.eq_iff_iff]; simp] at g
    exact (Sim.vc rfl (Sim.pure (.iv _ _ (.bool _)))) K t g
  case gtr =>
    obtain ⟨e, g⟩ := gd_some h
    obtain rfl := eqIK_eq e
    rw [ltZ_iff] at g
    exact (Sim.vc rfl (Sim.pure (.iv _ _ (.bool _)))) K t g
  case geq =>
    obtain ⟨e, g⟩ := gd_some h
    obtain rfl := eqIK_eq e
    rw [ltZ_iff, show (!decide (a < b)) = decide (b ≤ a) by rw [Bool.eq_iff_iff]; simp] at g
    exact (Sim.vc rfl (Sim.pure (.iv _ _ (.bool _)))) K t g
  all_goals (cases a <;> cases b <;> first | (cases h; done) | skip)
  case quo.ofNat.ofNat a b =>
    obtain ⟨e, g⟩ := gd_some h
    simp only [Bool.and_eq_true, nblt, decide_eq_true_eq] at e
    obtain ⟨⟨e1, e2⟩, e3⟩ := e
    obtain rfl := eqIK_eq e1
    rw [forR_eq] at g
    have := limN_max k
    refine (Sim.vc (A := k = k ∧ 0 ≤ Int.ofNat a ∧ 0 < Int.ofNat b) ?_ ((Sim.pure (.iv _ _ (.int _ _))).to fun K hK => ⟨?_, hK⟩)) K t g
    · simp only [Int.ofNat_eq_natCast]
      refine ⟨trivial, by omega, by omega⟩
    · simp only [Int.ofNat_eq_natCast]; omega
  case rem.ofNat.ofNat a b =>
    obtain ⟨e, g⟩ := gd_some h
    simp only [Bool.and_eq_true, nblt, decide_eq_true_eq] at e
    obtain rfl := eqIK_eq e.1
    rw [forR_eq] at g
    refine (Sim.vc (A := k = k ∧ 0 ≤ Int.ofNat a ∧ 0 < Int.ofNat b) ?_ (Sim.pure (.iv _ _ (.int _ _)))) K t g
    simp only [Int.ofNat_eq_natCast]
    refine ⟨trivial, by omega, by omega⟩
  case and.ofNat.ofNat a b =>
    obtain ⟨e, g⟩ := gd_some h
    simp only [Bool.and_eq_true, nblt, decide_eq_true_eq] at e
    obtain ⟨⟨e1, e2⟩, e3⟩ := e
    obtain rfl := eqIK_eq e1
    rw [forR_eq] at g
    have e4 : bitI .and k (Int.ofNat a) (Int.ofNat b) = Int.ofNat (Nat.land a b) := by
      simp only [bitI, Int.ofNat_eq_natCast, BitVec.toNat_and, bit_nat e2, bit_nat e3]
      exact wr_lim (bit_lt e2 e3).1
    exact ⟨_, _, g, .iv _ _ (.int _ _), fun K' hk => vc_iff.2 ⟨rfl, by rw [e4]; exact hk⟩⟩
  case or.ofNat.ofNat a b =>
    obtain ⟨e, g⟩ := gd_some h
    simp only [Bool.and_eq_true, nblt, decide_eq_true_eq] at e
    obtain ⟨⟨e1, e2⟩, e3⟩ := e
    obtain rfl := eqIK_eq e1
    rw [forR_eq] at g
    have e4 : bitI .or k (Int.ofNat a) (Int.ofNat b) = Int.ofNat (Nat.lor a b) := by
      simp only [bitI, Int.ofNat_eq_natCast, BitVec.toNat_or, bit_nat e2, bit_nat e3]
      exact wr_lim (bit_lt e2 e3).2.1
    exact ⟨_, _, g, .iv _ _ (.int _ _), fun K' hk => vc_iff.2 ⟨rfl, by rw [e4]; exact hk⟩⟩
  case xor.ofNat.ofNat a b =>
    obtain ⟨e, g⟩ := gd_some h
    simp only [Bool.and_eq_true, nblt, decide_eq_true_eq] at e
    obtain ⟨⟨e1, e2⟩, e3⟩ := e
    obtain rfl := eqIK_eq e1
    rw [forR_eq] at g
    have e4 : bitI .xor k (Int.ofNat a) (Int.ofNat b) = Int.ofNat (Nat.xor a b) := by
      simp only [bitI, Int.ofNat_eq_natCast, BitVec.toNat_xor, bit_nat e2, bit_nat e3]
      exact wr_lim (bit_lt e2 e3).2.2
    exact ⟨_, _, g, .iv _ _ (.int _ _), fun K' hk => vc_iff.2 ⟨rfl, by rw [e4]; exact hk⟩⟩
  case shl.ofNat.ofNat a b =>
    obtain ⟨e, g⟩ := gd_some h
    simp only [nble, decide_eq_true_eq] at e
    have hb : (bitsN k : Int) = bitsI k := by cases k <;> rfl
    obtain ⟨v, v', h1, h2, h3⟩ := kint_wr K t g
    refine ⟨v, v', h1, h2, fun K' hk => vc_iff.2 ⟨⟨Int.natCast_nonneg b, by rw [← hb]; exact Int.ofNat_le.2 e⟩, ?_⟩⟩
    have := h3 K' hk
    have e5 : (Int.ofNat (Nat.shiftLeft a b)) = (Int.ofNat a) * 2 ^ (Int.ofNat b).toNat := by
      show ((a <<< b : Nat) : Int) = (a : Int) * 2 ^ b
      rw [Nat.shiftLeft_eq]; simp
    rw [e5] at this
    exact this
  case shr.ofNat.ofNat a b =>
    obtain ⟨e, g⟩ := gd_some h
    simp only [nble, decide_eq_true_eq] at e
    rw [forR_eq] at g
    have hb : (bitsN k : Int) = bitsI k := by cases k <;> rfl
    have e5 : shrI (Int.ofNat a) (Int.ofNat b).toNat = Int.ofNat (Nat.shiftRight a b) := by
      show (a : Int).fdiv (2 ^ b) = ((a >>> b : Nat) : Int)
      rw [Nat.shiftRight_eq_div_pow, Int.fdiv_eq_ediv_of_nonneg _ (by have : (0 : Int) < 2 ^ b := Int.pow_pos (by decide); omega)]
      simp
    exact ⟨_, _, g, .iv _ _ (.int _ _), fun K' hk => vc_iff.2 ⟨⟨Int.natCast_nonneg b, by rw [← hb]; exact Int.ofNat_le.2 e⟩, by rw [e5]; exact hk⟩⟩
end Sg
end Go.Proofs.YtfkboondffejaaaGreatDoor
set_option linter.unusedVariables false
set_option linter.unusedSimpArgs false
set_option linter.constructorNameAsVariable false
namespace Go.Proofs.YtfkboondffejaaaGreatDoor
namespace Sg
theorem kbinB_sim {op : BinOp} {a b : UInt8} : Sim (kbinB op a.toNat b.toNat) (binK op (.iv (.byte a)) (.iv (.byte b))) VR := by
  intro K t h
  have ha := a.toNat_lt
  have hb := b.toNat_lt
  have by' : ∀ (m : Nat) (c : UInt8), m = c.toNat → K (.byte m) = some t → (∀ K' : SV → Prop, K' (.iv (.byte c)) → binK op (.iv (.byte a)) (.iv (.byte b)) K') → ∃ v v', K v = some t ∧ VR v v' ∧ ∀ K' : SV → Prop, K' v' → binK op (.iv (.byte a)) (.iv (.byte b)) K' :=
    fun m c e hk hh => ⟨_, _, hk, .iv _ _ (.byte c m e.symm), hh⟩
  have bl : ∀ (m n : Bool), m = n → K (.bool m) = some t → (∀ K' : SV → Prop, K' (.iv (.bool n)) → binK op (.iv (.byte a)) (.iv (.byte b)) K') → ∃ v v', K v = some t ∧ VR v v' ∧ ∀ K' : SV → Prop, K' v' → binK op (.iv (.byte a)) (.iv (.byte b)) K' :=
    fun m n e hk hh => ⟨_, _, hk, e ▸ .iv _ _ (.bool m), hh⟩
  have heq : Nat.beq a.toNat b.toNat = decide (a = b) := by rw [nbeq, Bool.eq_iff_iff]; simp [UInt8.toNat_inj]
  cases op
  case add => simp only [kbinB, forR_eq] at h; exact by' _ (a + b) (by rw [UInt8.toNat_add]; rfl) h fun _ h => h
  case sub => simp only [kbinB, forR_eq] at h; exact by' _ (a - b) (by rw [UInt8.toNat_sub]; rfl) h fun _ h => h
  case and => simp only [kbinB, forR_eq] at h; exact by' _ (a &&& b) (by rw [UInt8.toNat_and]; rfl) h fun _ h => h
  case or => simp only [kbinB, forR_eq] at h; exact by' _ (a ||| b) (by rw [UInt8.toNat_or]; rfl) h fun _ h => h
  case xor => simp only [kbinB, forR_eq] at h; exact by' _ (a ^^^ b) (by rw [UInt8.toNat_xor]; rfl) h fun _ h => h
  case eql => exact bl _ _ heq h fun _ h => h
  case neq => exact bl _ (!decide (a = b)) (by rw [heq]) h fun _ h => h
  case lss => exact bl _ (decide (a < b)) (by rw [nblt]; rfl) h fun _ h => h
  case leq => exact bl _ (decide (a ≤ b)) (by rw [nble]; rfl) h fun _ h => h
  case gtr => exact bl _ (decide (b < a)) (by rw [nblt]; rfl) h fun _ h => h
  case geq => exact bl _ (decide (b ≤ a)) (by rw [nble]; rfl) h fun _ h => h
  all_goals cases h
theorem str_eq {a b : List UInt8} : (Nat.beq a.length b.length && Nat.beq (packL a) (packL b)) = decide (a = b) := by
  rw [Bool.eq_iff_iff, Bool.and_eq_true, nbeq, nbeq, decide_eq_true_iff, decide_eq_true_iff, decide_eq_true_iff]
  exact ⟨fun ⟨h1, h2⟩ => packL_inj h1 h2, fun e => by subst e; exact ⟨rfl, rfl⟩⟩
theorem kbin_sim {op : BinOp} {x y : KV} {x' y' : SV} (hx : VR x x') (hy : VR y y') : Sim (kbin op x y) (binK op x' y') VR := by
  cases hx with
  | iv _ _ hx =>
    cases hx with
    | int k a =>
      cases hy with
      | iv _ _ hy =>
        cases hy with
        | int k' b => exact kbinI_sim
        | byte | bool | str | nilptr | nilsl | nilmap | nilfn | nilif | ip | sbs | sis => exact Sim.none
      | ptr | ixp | sl | slx | map | agg | tup | fn => exact Sim.none
    | byte a an ha =>
      subst ha
      cases hy with
      | iv _ _ hy =>
        cases hy with
        | byte b bn hb => subst hb; exact kbinB_sim
        | int k' b =>
          intro K t h
          have hal := a.toNat_lt
          cases op <;> cases b <;> first | (cases h; done) | skip
          case shl.ofNat b =>
            obtain ⟨e, g⟩ := gd_some (show gd (Nat.ble b 8) (forR (Nat.mod (Nat.shiftLeft a.toNat b) 256) fun m => K (.byte m)) = some t from h)
            rw [forR_eq] at g
            simp only [nble, decide_eq_true_eq] at e
            refine ⟨_, .iv (.byte (shB .shl a b)), g, .iv _ _ (.byte _ _ ?_), fun K' hk => vc_iff.2 ⟨⟨Int.natCast_nonneg b, by simp only [Int.ofNat_eq_natCast]; omega⟩, hk⟩⟩
            show (UInt8.ofNat (a.toNat * 2 ^ b)).toNat = (a.toNat <<< b) % 256
            rw [Nat.shiftLeft_eq]; simp
          case shr.ofNat b =>
            obtain ⟨e, g⟩ := gd_some (show gd (Nat.ble b 8) (forR (Nat.shiftRight a.toNat b) fun m => K (.byte m)) = some t from h)
            rw [forR_eq] at g
            simp only [nble, decide_eq_true_eq] at e
            refine ⟨_, .iv (.byte (shB .shr a b)), g, .iv _ _ (.byte _ _ ?_), fun K' hk => vc_iff.2 ⟨⟨Int.natCast_nonneg b, by simp only [Int.ofNat_eq_natCast]; omega⟩, hk⟩⟩
            show (UInt8.ofNat (a.toNat / 2 ^ b)).toNat = a.toNat >>> b
            rw [Nat.shiftRight_eq_div_pow]
            have : a.toNat / 2 ^ b ≤ a.toNat := Nat.div_le_self _ _
            simp; omega
        | bool | str | nilptr | nilsl | nilmap | nilfn | nilif | ip | sbs | sis => exact Sim.none
      | ptr | ixp | sl | slx | map | agg | tup | fn => exact Sim.none
    | str l n m hn hm =>
      subst hn hm
      cases hy with
      | iv _ _ hy =>
        cases hy with
        | str l2 n m hn hm =>
          subst hn hm
          intro K t h
          have h : kbinS op l.length (packL l) l2.length (packL l2) K = some t := h
          cases op
          case add =>
            simp only [kbinS, forR_eq] at h
            obtain ⟨e, g⟩ := gd_some h
            simp only [nble, decide_eq_true_eq] at e
            have e : l.length + l2.length ≤ 9223372036854775807 := e
            rw [packL_app] at g
            exact ⟨_, _, g, .iv _ _ (.str (l ++ l2) _ _ (by simp) rfl), fun K' hk => vc_iff.2 ⟨e, hk⟩⟩
          case eql =>
            simp only [kbinS, str_eq] at h
            exact ⟨_, _, h, .iv _ _ (.bool _), fun _ h => h⟩
          case neq =>
            simp only [kbinS, str_eq] at h
            exact ⟨_, _, h, .iv _ _ (.bool _), fun _ h => h⟩
          all_goals cases h
        | int | byte | bool | nilptr | nilsl | nilmap | nilfn | nilif | ip | sbs | sis => exact Sim.none
      | ptr | ixp | sl | slx | map | agg | tup | fn => exact Sim.none
    | bool | nilptr | nilsl | nilmap | nilfn | nilif | ip | sbs | sis => exact Sim.none
  | ptr | ixp | sl | slx | map | agg | tup | fn => exact Sim.none
inductive MR : List (KV × KV) → List (IV × SV) → Prop
  | nil : MR [] []
  | cons (k v : KV) (k' : IV) (v' : SV) (es : List (KV × KV)) (es' : List (IV × SV)) (hk : KI k k') (hv : VR v v') (hs : MR es es') : MR ((k, v) :: es) ((k', v') :: es')
inductive OR : KObj → SObj → Prop
  | cells (cs : List KV) (cs' : List SV) (h : VRs cs cs') : OR (.cells cs) (.cells cs')
  | bytes (l : List UInt8) (n m : Nat) (hn : l.length = n) (hm : packL l = m) : OR (.bytes n m) (.bytes l)
  | arr (sz len : Nat) (l : List (List KV)) (E : Nat → List SV) (hl : l.length = len) (h : ∀ i x, l[i]? = some x → VRs x (E i)) : OR (.arr sz len l) (.arr sz len E)
  | mp (es : List (KV × KV)) (es' : List (IV × SV)) (h : MR es es') : OR (.mp es) (.mp es')
def HR (S : KH) (S' : SH) : Prop := ∀ n o, S.get n = some o → ∃ o', SH.get S' n.val = some o' ∧ OR o o'
section
variable {G : KG} {G' : Gl} {fr : KT} {fr' : FT} {S : KH} {S' : SH} {nx : Nat}
theorem kget_sim (hH : HR S S') {n : Pos} : Sim (KH.getR S n) (SH.getK S' n.val) OR := by
  intro K t h
  obtain ⟨o, h1, h2⟩ := KH.getR_some h
  obtain ⟨o', h3, h4⟩ := hH n o h1
  exact ⟨o, o', h2, h4, fun K' hk => SH.getK_iff.2 ⟨o', h3, hk⟩⟩
theorem knth_some {t : KSt} : ∀ {l : List (List KV)} {i : Nat} {K : List KV → R}, knth l i K = some t → ∃ x, l[i]? = some x ∧ K x = some t
  | [], i, K, h => by cases i <;> cases h
  | x :: l, 0, K, h => ⟨x, rfl, h⟩
  | x :: l, i + 1, K, h => by simpa using knth_some (l := l) h
theorem knth_sim {l : List (List KV)} {E : Nat → List SV} (h : ∀ i x, l[i]? = some x → VRs x (E i)) {i : Nat} : Sim (knth l i) (fun K => K (E i)) VRs := fun K t hk => by
  obtain ⟨x, h1, h2⟩ := knth_some hk
  exact ⟨x, E i, h2, h i x h1, fun _ h => h⟩
theorem and3 {a b c : Bool} (h : (a && b && c) = true) : a = true ∧ b = true ∧ c = true := by
  simp only [Bool.and_eq_true] at h; exact ⟨h.1.1, h.1.2, h.2⟩
theorem and2 {a b : Bool} (h : (a && b) = true) : a = true ∧ b = true := by
  simpa only [Bool.and_eq_true] using h
theorem ofb {a b : Nat} (h : Nat.beq a b = true) : a = b := Nat.eq_of_beq_eq_true h
theorem kload1_sim (hH : HR S S') {v : KV} {v' : SV} (h : VR v v') : Sim (kload1 S v) (fun K => match v' with
    | .iv (.ip cs) => cellK (cs.map SV.iv) 0 K
    | .ptr n off => SH.getK S' n fun o => match o with
      | .cells cs => cellK cs off K
      | _ => False
    | .ixp n off sz i => SH.getK S' n fun o => match o with
      | .arr sz' len E => vc (sz = sz' ∧ i < len ∧ off < sz) (cellK (E i) off K)
      | .bytes l => vc (sz = 1 ∧ off = 0 ∧ i < l.length) (K (.iv (.byte (l.getD i 0))))
      | .cells cs => vc (sz = 1) (dropK cs off fun r => match r with
        | .iv (.sbs n l) :: _ => vc (i < n) (K (.iv (.byte (l.getD i 0))))
        | .iv (.sis kd n l) :: _ => vc (i < n) (K (.iv (.int kd (l.getD i 0))))
        | _ => False)
      | _ => False
    | _ => False) VR := by
  cases h with
  | iv _ _ h =>
    cases h with
    | ip cs cs' h => exact kcell_sim h.up
    | int | byte | bool | str | nilptr | nilsl | nilmap | nilfn | nilif | sbs | sis => exact Sim.none
  | ptr n off =>
    refine (kget_sim hH).bind fun o o' ho => ?_
    cases ho with
    | cells cs cs' h => exact kcell_sim h
    | bytes | arr | mp => exact Sim.none
  | ixp n off sz i =>
    refine (kget_sim hH).bind fun o o' ho => ?_
    cases ho with
    | cells cs cs' h =>
      refine Sim.gd fun e => Sim.vc (ofb e) ((kdrop_sim h).bind fun r r' hr => ?_)
      cases hr with
      | nil => exact Sim.none
      | cons x y xs ys hxy hs =>
        cases hxy with
        | iv _ _ h =>
          cases h with
          | sbs l n m hn hm =>
            refine Sim.gd fun e => Sim.vc (of_blt e) ?_
            subst hm
            rw [packL_get (by rw [hn]; exact of_blt e)]
            exact Sim.forR (T := fun m (K : KV → R) => K (.byte m)) (Sim.pure (.iv _ _ (.byte _ _ rfl)))
          | sis k n l hn =>
            refine Sim.gd fun e => Sim.vc (of_blt e) ?_
            intro K t hk
            obtain ⟨_, hk⟩ := kgetI_some hk
            exact ⟨_, _, hk, .iv _ _ (.int _ _), fun _ h => h⟩
          | int | byte | bool | str | nilptr | nilsl | nilmap | nilfn | nilif | ip => exact Sim.none
        | ptr | ixp | sl | slx | map | agg | tup | fn => exact Sim.none
    | bytes l n m hn hm =>
      subst hn hm
      refine Sim.gd fun e => ?_
      obtain ⟨e1, e2, e3⟩ := and3 e
      refine Sim.vc ⟨ofb e1, ofb e2, of_blt e3⟩ ?_
      rw [packL_get (of_blt e3)]
      exact Sim.forR (T := fun m (K : KV → R) => K (.byte m)) (Sim.pure (.iv _ _ (.byte _ _ rfl)))
    | arr sz' len l E hl h =>
      refine Sim.gd fun e => ?_
      obtain ⟨e1, e2, e3⟩ := and3 e
      exact Sim.vc ⟨ofb e1, of_blt e2, of_blt e3⟩ ((knth_sim h).bind fun cs cs' hcs => kcell_sim hcs)
    | mp => exact Sim.none
  | sl | slx | map | agg | tup | fn => exact Sim.none
theorem kloadN_sim (hH : HR S S') {n : Nat} {v : KV} {v' : SV} (h : VR v v') : Sim (kloadN S n v) (fun K => match v' with
    | .iv (.ip cs) => takeK (cs.map SV.iv) 0 n fun r => K (.agg r)
    | .ptr m off => SH.getK S' m fun o => match o with
      | .cells cs => takeK cs off n fun r => K (.agg r)
      | _ => False
    | .ixp m off sz i => SH.getK S' m fun o => match o with
      | .arr sz' len E => vc (sz = sz' ∧ i < len ∧ off + n ≤ sz) (takeK (E i) off n fun r => K (.agg r))
      | .bytes l => vc (sz = 1 ∧ off = 0 ∧ i + n ≤ l.length) (K (.agg [.iv (.sbs n (sub l i n))]))
      | _ => False
    | _ => False) VR := by
  have dt : ∀ {cs : List KV} {cs' : List SV} {off : Nat}, VRs cs cs' → Sim (fun K : KV → R => kdrop cs off fun cs => ktake cs n fun r => K (.agg r)) (fun K => takeK cs' off n fun r => K (.agg r)) VR := by
    intro cs cs' off h
    have h1 : Sim (fun K : KV → R => kdrop cs off fun cs => ktake cs n fun r => K (.agg r)) (fun K => dropK cs' off fun cs => takeK cs 0 n fun r => K (.agg r)) VR :=
      (kdrop_sim h).bind fun r r' hr => (ktake_sim hr).bind fun q q' hq => Sim.pure (.agg _ _ hq)
    exact h1.to fun K hK => take_drop cs' off n _ hK
  cases h with
  | iv _ _ h =>
    cases h with
    | ip cs cs' h => exact (ktake_sim h.up).bind fun q q' hq => Sim.pure (.agg _ _ hq)
    | int | byte | bool | str | nilptr | nilsl | nilmap | nilfn | nilif | sbs | sis => exact Sim.none
  | ptr m off =>
    refine (kget_sim hH).bind fun o o' ho => ?_
    cases ho with
    | cells cs cs' h => exact dt h
    | bytes | arr | mp => exact Sim.none
  | ixp m off sz i =>
    refine (kget_sim hH).bind fun o o' ho => ?_
    cases ho with
    | cells => exact Sim.none
    | bytes l p q hn hm =>
      subst hn hm
      refine Sim.gd fun e => ?_
      obtain ⟨e1, e2, e3⟩ := and3 e
      have e3 : i + n ≤ l.length := of_ble e3
      refine Sim.vc ⟨ofb e1, ofb e2, e3⟩ ?_
      rw [packL_sub]
      exact Sim.forR (T := fun m (K : KV → R) => K (.agg [.sbs n m])) (Sim.pure (.agg _ _ (.cons _ _ _ _ (.iv _ _ (.sbs _ _ _ (by simp [sub]; omega) rfl)) .nil)))
    | arr sz' len l E hl h =>
      refine Sim.gd fun e => ?_
      obtain ⟨e1, e2, e3⟩ := and3 e
      have e3 : off + n ≤ sz := of_ble e3
      exact Sim.vc ⟨ofb e1, of_blt e2, e3⟩ ((knth_sim h).bind fun cs cs' hcs => dt hcs)
    | mp => exact Sim.none
  | sl | slx | map | agg | tup | fn => exact Sim.none
def BR (p : Nat × Nat) (l : List UInt8) : Prop := l.length = p.1 ∧ packL l = p.2
theorem kcont_sim (hH : HR S S') {v : KV} {v' : SV} (h : VR v v') : Sim (fun K : Nat × Nat → R => kcont S v fun a b => K (a, b)) (contK S' v') BR := by
  cases h with
  | iv _ _ h =>
    cases h with
    | nilsl => exact Sim.pure ⟨rfl, rfl⟩
    | str l n m hn hm => exact Sim.pure ⟨hn, hm⟩
    | int | byte | bool | nilptr | nilmap | nilfn | nilif | ip | sbs | sis => exact Sim.none
  | sl sz n off len =>
    refine (kget_sim hH).bind (U := fun o (K : Nat × Nat → R) => match o with | .bytes m l => gd (Nat.beq sz 1 && Nat.ble (Nat.add off len) m) (forR (psub l off len) fun l => K (len, l)) | _ => none) fun o o' ho => ?_
    cases ho with
    | bytes l p q hn hm =>
      subst hn hm
      refine Sim.gd fun e => ?_
      obtain ⟨e1, e2⟩ := and2 e
      have e2 : off + len ≤ l.length := of_ble e2
      refine Sim.vc ⟨ofb e1, e2⟩ ?_
      rw [packL_sub]
      exact Sim.forR (T := fun m (K : Nat × Nat → R) => K (len, m)) (Sim.pure ⟨by simp [sub]; omega, rfl⟩)
    | cells | arr | mp => exact Sim.none
  | slx sz n off len cap =>
    refine (kget_sim hH).bind (U := fun o (K : Nat × Nat → R) => match o with | .cells cs => (kdrop cs off fun r => match r with | .sbs m l :: _ => gd (Nat.beq sz 1 && Nat.ble len m) (forR (psub l 0 len) fun l => K (len, l)) | _ => none) | _ => none) fun o o' ho => ?_
    cases ho with
    | cells cs cs' h =>
      refine (kdrop_sim h).bind (U := fun r (K : Nat × Nat → R) => match r with | .sbs m l :: _ => gd (Nat.beq sz 1 && Nat.ble len m) (forR (psub l 0 len) fun l => K (len, l)) | _ => none) fun r r' hr => ?_
      cases hr with
      | nil => exact Sim.none
      | cons x y xs ys hxy hs =>
        cases hxy with
        | iv _ _ h =>
          cases h with
          | sbs l n m hn hm =>
            subst hm
            refine Sim.gd fun e => ?_
            obtain ⟨e1, e2⟩ := and2 e
            refine Sim.vc ⟨ofb e1, of_ble e2⟩ ?_
            rw [packL_sub]
            exact Sim.forR (T := fun m (K : Nat × Nat → R) => K (len, m)) (Sim.pure ⟨by have := of_ble e2; simp [sub]; omega, rfl⟩)
          | sis | int | byte | bool | str | nilptr | nilsl | nilmap | nilfn | nilif | ip => exact Sim.none
        | ptr | ixp | sl | slx | map | agg | tup | fn => exact Sim.none
    | bytes | arr | mp => exact Sim.none
  | ptr | ixp | map | agg | tup | fn => exact Sim.none
end
end Sg
end Go.Proofs.YtfkboondffejaaaGreatDoor
