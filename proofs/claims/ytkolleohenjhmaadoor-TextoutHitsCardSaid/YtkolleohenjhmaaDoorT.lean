/- The laid table, as the printed contracts name it. -/
import Derived.Test.YtkolleohenjhmaaDoorB
